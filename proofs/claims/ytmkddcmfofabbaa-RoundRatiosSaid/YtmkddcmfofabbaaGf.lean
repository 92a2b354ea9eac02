/-
  divide.Floor.
-/
import Derived.Test.YtmkddcmfofabbaaGe
import Derived.Test.YtmkddcmfofabbaaGb
import Derived.Deep.DeepCutAuto
import Derived.Test.YtmkddcmfofabbaaGd
namespace Go.Proofs.Ytmkddcmfofabbaa
open Go Go.RowKit

theorem tdm {a b : Int} (hb : b ≠ 0) : a = b * a.tdiv b + a.tmod b ∧ (a.tmod b).natAbs < b.natAbs ∧ (a.tmod b).natAbs ≤ a.natAbs := by
  have h1 := Int.mul_tdiv_add_tmod a b
  have h2 := Int.natAbs_tmod a b
  have h3 := Nat.mod_lt a.natAbs (show 0 < b.natAbs by omega)
  have h4 := Nat.mod_le a.natAbs b.natAbs
  refine ⟨h1.symm, by omega, by omega⟩
theorem floor_same {a b : Int} (hb : b ≠ 0) (h : a.tmod b = 0 ∨ (a.tmod b < 0 ↔ b < 0)) : a.fdiv b = a.tdiv b ∧ a.fmod b = a.tmod b := by
  obtain ⟨h1, h2, h3⟩ := tdm (a := a) hb
  generalize a.tdiv b = q at *
  generalize a.tmod b = r at *
  by_cases h0 : 0 < b
  · exact fdiv_fmod_pos h0 h1 (by omega) (by omega)
  · exact fdiv_fmod_neg (by omega) h1 (by omega) (by omega)
theorem floor_less {a b : Int} (hb : b ≠ 0) (h0 : a.tmod b ≠ 0) (h : ¬ (a.tmod b < 0 ↔ b < 0)) : a.fdiv b = a.tdiv b - 1 ∧ a.fmod b = a.tmod b + b := by
  obtain ⟨h1, h2, h3⟩ := tdm (a := a) hb
  generalize a.tdiv b = q at *
  generalize a.tmod b = r at *
  have e : a = b * (q - 1) + (r + b) := by rw [Int.mul_sub, h1]; omega
  by_cases h0 : 0 < b
  · exact fdiv_fmod_pos h0 e (by omega) (by omega)
  · exact fdiv_fmod_neg (by omega) e (by omega) (by omega)
theorem tdiv_nat {a b : Int} : (a.tdiv b).natAbs = a.natAbs / b.natAbs := Int.natAbs_tdiv a b
theorem trunc_room {a b : Int} (ha : W128 a) (hb : b ≠ 0) (h : ¬ W128 (a.tdiv b)) : a.tmod b = 0 := by
  obtain ⟨h1, h2, h3⟩ := tdm (a := a) hb
  have e := tdiv_nat (a := a) (b := b)
  by_cases hb1 : b.natAbs = 1
  · omega
  · exfalso
    have : a.natAbs / b.natAbs ≤ a.natAbs / 2 := Nat.div_le_div_left (by omega) (by omega)
    unfold W128 at *
    omega
theorem floor_room {a b : Int} (ha : W128 a) (hb : b ≠ 0) (h0 : a.tmod b ≠ 0) : W128 (a.tdiv b - 1) := by
  obtain ⟨h1, h2, h3⟩ := tdm (a := a) hb
  have e := tdiv_nat (a := a) (b := b)
  have : a.natAbs / b.natAbs ≤ a.natAbs / 2 := Nat.div_le_div_left (by omega) (by omega)
  unfold W128 at *
  omega

def Trunc3 (a b : Int) : Prop := ∀ w, Calls Try.prog 59 #[.agg #[.int .i64 (hi a), .int .u64 (lo a)], .agg #[.int .i64 (hi b), .int .u64 (lo b)]] w (RetQ w (a.tdiv b) (a.tmod b))
set_option maxRecDepth 100000 in
set_option maxHeartbeats 3200000 in
theorem dfloor (a b : Int) (w : World) (ha : W128 a) (hb : W128 b) (h0 : b ≠ 0) (ho : Trunc3 a b) :
    Calls Try.prog 56 #[.agg #[.int .i64 (hi a), .int .u64 (lo a)], .agg #[.int .i64 (hi b), .int .u64 (lo b)]] w (RetQ w (a.fdiv b) (a.fmod b)) := by
  have H1 := Lib.hid ho
  have H2 := Lib.hid of_pure
  have H3 := Lib.hid wsub
  have H4 := Lib.hid wadd
  clear ho
  by_cases hq : W128 (a.tdiv b)
  · by_cases hr : a.tmod b = 0
    · obtain ⟨e1, e2⟩ := floor_same (a := a) h0 (Or.inl hr)
      rw [e1, e2]
      have HR := Lib.hid (show hi (a.tmod b) = 0 ∧ lo (a.tmod b) = 0 by rw [hr]; exact ⟨rfl, rfl⟩)
      have g1 : (hi (a.tmod b) == 0) = true := by rw [HR.out.1]; rfl
      have g2 : (lo (a.tmod b) == 0) = true := by rw [HR.out.2]; rfl
      clear e1 e2 hr
      go_enter Try.func56, Try.ntmps56
      go_wp2_with fail
      obtain ⟨W, hW⟩ : ∃ W, W = (((w.alloc (.cells #[.int .i64 (hi a), .int .u64 (lo a)] 26)).alloc (.cells #[.int .i64 (hi b), .int .u64 (lo b)] 26)).alloc (.cells #[.int .i64 0, .int .u64 0] 26)).alloc (.cells #[.int .i64 0, .int .u64 0] 26) := ⟨_, rfl⟩
      rw [← hW]
      have hB : Box2 W (w.heap.size + 1) (.int .i64 (hi b)) (.int .u64 (lo b)) 26 := by rw [hW]; exact ((Box2.new (by simp)).alloc _).alloc _
      have hR : Box2 W (w.heap.size + 1 + 1) (.int .i64 0) (.int .u64 0) 26 := by rw [hW]; exact (Box2.new (by simp)).alloc _
      have hS : Box2 W (w.heap.size + 1 + 1 + 1) (.int .i64 0) (.int .u64 0) 26 := by rw [hW]; exact Box2.new (by simp)
      have xw : Ext w W := by rw [hW]; exact (Ext.refl w).alloc.alloc.alloc.alloc
      clear hW
      refine (H1.out _).mono ?_
      rintro e w1 ⟨rfl, x1⟩
      (first | replace xw := Ext.trans xw x1 | replace xw := Ext.trans (Ext.alloc xw) x1 | replace xw := Ext.trans (Ext.drew xw) x1 | replace xw := Ext.trans (Ext.alloc (Ext.drew xw)) x1); (first | replace hB := hB.ext x1 | replace hB := (hB.alloc _).ext x1 | replace hB := hB.drew.ext x1 | replace hB := (hB.drew.alloc _).ext x1); (first | replace hR := hR.ext x1 | replace hR := (hR.alloc _).ext x1 | replace hR := hR.drew.ext x1 | replace hR := (hR.drew.alloc _).ext x1); (first | replace hS := hS.ext x1 | replace hS := (hS.alloc _).ext x1 | replace hS := hS.drew.ext x1 | replace hS := (hS.drew.alloc _).ext x1)
      have y1 := hS.kind.lt
      rw [thi_yes hq, tlo_yes hq, ter_yes hq, show qh (a.tdiv b) (a.tmod b) = hi (a.tmod b) from if_pos hq, show ql (a.tdiv b) (a.tmod b) = lo (a.tmod b) from if_pos hq]
      obtain ⟨V, hV⟩ : ∃ V, V = (w1.alloc (.cells #[.int .i64 (hi (a.tdiv b)), .int .u64 (lo (a.tdiv b))] 26)).alloc (.cells #[.int .i64 (hi (a.tmod b)), .int .u64 (lo (a.tmod b))] 26) := ⟨_, rfl⟩
      have hP : Box2 V w1.heap.size (.int .i64 (hi (a.tdiv b))) (.int .u64 (lo (a.tdiv b))) 26 := by rw [hV]; exact (Box2.new rfl).alloc _
      have hQ : Box2 V (w1.heap.size + 1) (.int .i64 (hi (a.tmod b))) (.int .u64 (lo (a.tmod b))) 26 := by rw [hV]; exact Box2.new (by simp)
      replace hB := hB.named2 hV
      replace hR := hR.named2 hV
      replace hS := hS.named2 hV
      replace xw : Ext w V := by rw [hV]; exact Ext.alloc (Ext.alloc xw)
      have kB := hB
      rw [hV] at kB
      have kQ := hQ
      rw [hV] at kQ
      have kB_0 := kB.c0; have kB_1 := kB.c1; have kQ_0 := kQ.c0; have kQ_1 := kQ.c1
      go_wp2_with fail
      rw [← hV]
      clear kB_0 kB_1 kQ_0 kQ_1
      clear kB kQ hV
      have n1 : ¬ w1.heap.size = w.heap.size + 1 + 1 := by omega
      have n2 : ¬ w1.heap.size = w.heap.size + 1 + 1 + 1 := by omega
      have n3 : ¬ w1.heap.size + 1 = w.heap.size + 1 + 1 := by omega
      have n4 : ¬ w1.heap.size + 1 = w.heap.size + 1 + 1 + 1 := by omega
      have n5 : ¬ w.heap.size + 1 + 1 = w1.heap.size := by omega
      have n6 : ¬ w.heap.size + 1 + 1 + 1 = w1.heap.size := by omega
      have n7 : ¬ w.heap.size + 1 = w1.heap.size := by omega
      have n8 : ¬ w.heap.size + 1 + 1 = w1.heap.size + 1 := by omega
      have n9 : ¬ w1.heap.size = w.heap.size + 1 := by omega
      have hP_0 := hP.c0; have hP_1 := hP.c1; have hQ_0 := hQ.c0; have hQ_1 := hQ.c1; have hR_0 := hR.c0; have hR_1 := hR.c1; have hS_0 := hS.c0; have hS_1 := hS.c1
      have hR_2 := hR.f0; have hR_3 := hR.f1; have hS_2 := hS.f0; have hS_3 := hS.f1
      go_region
      go_wp2_with fail
      refine bodyPost_ret (v := .tuple #[.agg #[.int .i64 (hi (a.tdiv b)), .int .u64 (lo (a.tdiv b))], .agg #[.int .i64 (hi (a.tmod b)), .int .u64 (lo (a.tmod b))], .int .i64 0]) (by simp [results, Try.results56, go_sem, hR_0, hR_1, hS_0, hS_1]) rfl (retQ_yes hq ?_)
      exact Ext.drew (Ext.set (Ext.set (Ext.set (Ext.set xw (by omega)) (by omega)) (by omega)) (by omega))
    · by_cases hs : a.tmod b < 0 ↔ b < 0
      · obtain ⟨e1, e2⟩ := floor_same (a := a) h0 (Or.inr hs)
        rw [e1, e2]
        have hsg : (decide (hi (a.tmod b) < 0) == decide (hi b < 0)) = true := by
          simp only [beq_iff_eq, decide_eq_decide, hi_neg]; exact hs
        clear e1 e2
        by_cases hz : hi (a.tmod b) = 0
        · have g1 : (hi (a.tmod b) == 0) = true := by simpa using hz
          have g2 : (lo (a.tmod b) == 0) = false := by
            simp only [beq_eq_false_iff_ne, ne_eq]; intro h; apply hr; rw [hi_lo (a.tmod b), hz, h]; rfl
          clear hz hr hs
          go_enter Try.func56, Try.ntmps56
          go_wp2_with fail
          obtain ⟨W, hW⟩ : ∃ W, W = (((w.alloc (.cells #[.int .i64 (hi a), .int .u64 (lo a)] 26)).alloc (.cells #[.int .i64 (hi b), .int .u64 (lo b)] 26)).alloc (.cells #[.int .i64 0, .int .u64 0] 26)).alloc (.cells #[.int .i64 0, .int .u64 0] 26) := ⟨_, rfl⟩
          rw [← hW]
          have hB : Box2 W (w.heap.size + 1) (.int .i64 (hi b)) (.int .u64 (lo b)) 26 := by rw [hW]; exact ((Box2.new (by simp)).alloc _).alloc _
          have hR : Box2 W (w.heap.size + 1 + 1) (.int .i64 0) (.int .u64 0) 26 := by rw [hW]; exact (Box2.new (by simp)).alloc _
          have hS : Box2 W (w.heap.size + 1 + 1 + 1) (.int .i64 0) (.int .u64 0) 26 := by rw [hW]; exact Box2.new (by simp)
          have xw : Ext w W := by rw [hW]; exact (Ext.refl w).alloc.alloc.alloc.alloc
          clear hW
          refine (H1.out _).mono ?_
          rintro e w1 ⟨rfl, x1⟩
          (first | replace xw := Ext.trans xw x1 | replace xw := Ext.trans (Ext.alloc xw) x1 | replace xw := Ext.trans (Ext.drew xw) x1 | replace xw := Ext.trans (Ext.alloc (Ext.drew xw)) x1); (first | replace hB := hB.ext x1 | replace hB := (hB.alloc _).ext x1 | replace hB := hB.drew.ext x1 | replace hB := (hB.drew.alloc _).ext x1); (first | replace hR := hR.ext x1 | replace hR := (hR.alloc _).ext x1 | replace hR := hR.drew.ext x1 | replace hR := (hR.drew.alloc _).ext x1); (first | replace hS := hS.ext x1 | replace hS := (hS.alloc _).ext x1 | replace hS := hS.drew.ext x1 | replace hS := (hS.drew.alloc _).ext x1)
          have y1 := hS.kind.lt
          rw [thi_yes hq, tlo_yes hq, ter_yes hq, show qh (a.tdiv b) (a.tmod b) = hi (a.tmod b) from if_pos hq, show ql (a.tdiv b) (a.tmod b) = lo (a.tmod b) from if_pos hq]
          obtain ⟨V, hV⟩ : ∃ V, V = (w1.alloc (.cells #[.int .i64 (hi (a.tdiv b)), .int .u64 (lo (a.tdiv b))] 26)).alloc (.cells #[.int .i64 (hi (a.tmod b)), .int .u64 (lo (a.tmod b))] 26) := ⟨_, rfl⟩
          have hP : Box2 V w1.heap.size (.int .i64 (hi (a.tdiv b))) (.int .u64 (lo (a.tdiv b))) 26 := by rw [hV]; exact (Box2.new rfl).alloc _
          have hQ : Box2 V (w1.heap.size + 1) (.int .i64 (hi (a.tmod b))) (.int .u64 (lo (a.tmod b))) 26 := by rw [hV]; exact Box2.new (by simp)
          replace hB := hB.named2 hV
          replace hR := hR.named2 hV
          replace hS := hS.named2 hV
          replace xw : Ext w V := by rw [hV]; exact Ext.alloc (Ext.alloc xw)
          have kB := hB
          rw [hV] at kB
          have kQ := hQ
          rw [hV] at kQ
          have kB_0 := kB.c0; have kB_1 := kB.c1; have kQ_0 := kQ.c0; have kQ_1 := kQ.c1
          go_wp2_with fail
          rw [← hV]
          clear kB_0 kB_1 kQ_0 kQ_1
          clear kB kQ hV
          have n1 : ¬ w1.heap.size = w.heap.size + 1 + 1 := by omega
          have n2 : ¬ w1.heap.size = w.heap.size + 1 + 1 + 1 := by omega
          have n3 : ¬ w1.heap.size + 1 = w.heap.size + 1 + 1 := by omega
          have n4 : ¬ w1.heap.size + 1 = w.heap.size + 1 + 1 + 1 := by omega
          have n5 : ¬ w.heap.size + 1 + 1 = w1.heap.size := by omega
          have n6 : ¬ w.heap.size + 1 + 1 + 1 = w1.heap.size := by omega
          have n7 : ¬ w.heap.size + 1 = w1.heap.size := by omega
          have n8 : ¬ w.heap.size + 1 + 1 = w1.heap.size + 1 := by omega
          have n9 : ¬ w1.heap.size = w.heap.size + 1 := by omega
          have hP_0 := hP.c0; have hP_1 := hP.c1; have hQ_0 := hQ.c0; have hQ_1 := hQ.c1; have hR_0 := hR.c0; have hR_1 := hR.c1; have hS_0 := hS.c0; have hS_1 := hS.c1
          have hR_2 := hR.f0; have hR_3 := hR.f1; have hS_2 := hS.f0; have hS_3 := hS.f1
          go_region
          go_wp2_with fail
          refine bodyPost_ret (v := .tuple #[.agg #[.int .i64 (hi (a.tdiv b)), .int .u64 (lo (a.tdiv b))], .agg #[.int .i64 (hi (a.tmod b)), .int .u64 (lo (a.tmod b))], .int .i64 0]) (by simp [results, Try.results56, go_sem, hR_0, hR_1, hS_0, hS_1]) rfl (retQ_yes hq ?_)
          exact Ext.drew (Ext.set (Ext.set (Ext.set (Ext.set xw (by omega)) (by omega)) (by omega)) (by omega))
        · have g1 : (hi (a.tmod b) == 0) = false := by simpa using hz
          clear hz hr hs
          go_enter Try.func56, Try.ntmps56
          go_wp2_with fail
          obtain ⟨W, hW⟩ : ∃ W, W = (((w.alloc (.cells #[.int .i64 (hi a), .int .u64 (lo a)] 26)).alloc (.cells #[.int .i64 (hi b), .int .u64 (lo b)] 26)).alloc (.cells #[.int .i64 0, .int .u64 0] 26)).alloc (.cells #[.int .i64 0, .int .u64 0] 26) := ⟨_, rfl⟩
          rw [← hW]
          have hB : Box2 W (w.heap.size + 1) (.int .i64 (hi b)) (.int .u64 (lo b)) 26 := by rw [hW]; exact ((Box2.new (by simp)).alloc _).alloc _
          have hR : Box2 W (w.heap.size + 1 + 1) (.int .i64 0) (.int .u64 0) 26 := by rw [hW]; exact (Box2.new (by simp)).alloc _
          have hS : Box2 W (w.heap.size + 1 + 1 + 1) (.int .i64 0) (.int .u64 0) 26 := by rw [hW]; exact Box2.new (by simp)
          have xw : Ext w W := by rw [hW]; exact (Ext.refl w).alloc.alloc.alloc.alloc
          clear hW
          refine (H1.out _).mono ?_
          rintro e w1 ⟨rfl, x1⟩
          (first | replace xw := Ext.trans xw x1 | replace xw := Ext.trans (Ext.alloc xw) x1 | replace xw := Ext.trans (Ext.drew xw) x1 | replace xw := Ext.trans (Ext.alloc (Ext.drew xw)) x1); (first | replace hB := hB.ext x1 | replace hB := (hB.alloc _).ext x1 | replace hB := hB.drew.ext x1 | replace hB := (hB.drew.alloc _).ext x1); (first | replace hR := hR.ext x1 | replace hR := (hR.alloc _).ext x1 | replace hR := hR.drew.ext x1 | replace hR := (hR.drew.alloc _).ext x1); (first | replace hS := hS.ext x1 | replace hS := (hS.alloc _).ext x1 | replace hS := hS.drew.ext x1 | replace hS := (hS.drew.alloc _).ext x1)
          have y1 := hS.kind.lt
          rw [thi_yes hq, tlo_yes hq, ter_yes hq, show qh (a.tdiv b) (a.tmod b) = hi (a.tmod b) from if_pos hq, show ql (a.tdiv b) (a.tmod b) = lo (a.tmod b) from if_pos hq]
          obtain ⟨V, hV⟩ : ∃ V, V = (w1.alloc (.cells #[.int .i64 (hi (a.tdiv b)), .int .u64 (lo (a.tdiv b))] 26)).alloc (.cells #[.int .i64 (hi (a.tmod b)), .int .u64 (lo (a.tmod b))] 26) := ⟨_, rfl⟩
          have hP : Box2 V w1.heap.size (.int .i64 (hi (a.tdiv b))) (.int .u64 (lo (a.tdiv b))) 26 := by rw [hV]; exact (Box2.new rfl).alloc _
          have hQ : Box2 V (w1.heap.size + 1) (.int .i64 (hi (a.tmod b))) (.int .u64 (lo (a.tmod b))) 26 := by rw [hV]; exact Box2.new (by simp)
          replace hB := hB.named2 hV
          replace hR := hR.named2 hV
          replace hS := hS.named2 hV
          replace xw : Ext w V := by rw [hV]; exact Ext.alloc (Ext.alloc xw)
          have kB := hB
          rw [hV] at kB
          have kQ := hQ
          rw [hV] at kQ
          have kB_0 := kB.c0; have kB_1 := kB.c1; have kQ_0 := kQ.c0; have kQ_1 := kQ.c1
          go_wp2_with fail
          rw [← hV]
          clear kB_0 kB_1 kQ_0 kQ_1
          clear kB kQ hV
          have n1 : ¬ w1.heap.size = w.heap.size + 1 + 1 := by omega
          have n2 : ¬ w1.heap.size = w.heap.size + 1 + 1 + 1 := by omega
          have n3 : ¬ w1.heap.size + 1 = w.heap.size + 1 + 1 := by omega
          have n4 : ¬ w1.heap.size + 1 = w.heap.size + 1 + 1 + 1 := by omega
          have n5 : ¬ w.heap.size + 1 + 1 = w1.heap.size := by omega
          have n6 : ¬ w.heap.size + 1 + 1 + 1 = w1.heap.size := by omega
          have n7 : ¬ w.heap.size + 1 = w1.heap.size := by omega
          have n8 : ¬ w.heap.size + 1 + 1 = w1.heap.size + 1 := by omega
          have n9 : ¬ w1.heap.size = w.heap.size + 1 := by omega
          have hP_0 := hP.c0; have hP_1 := hP.c1; have hQ_0 := hQ.c0; have hQ_1 := hQ.c1; have hR_0 := hR.c0; have hR_1 := hR.c1; have hS_0 := hS.c0; have hS_1 := hS.c1
          have hR_2 := hR.f0; have hR_3 := hR.f1; have hS_2 := hS.f0; have hS_3 := hS.f1
          go_region
          go_wp2_with fail
          refine bodyPost_ret (v := .tuple #[.agg #[.int .i64 (hi (a.tdiv b)), .int .u64 (lo (a.tdiv b))], .agg #[.int .i64 (hi (a.tmod b)), .int .u64 (lo (a.tmod b))], .int .i64 0]) (by simp [results, Try.results56, go_sem, hR_0, hR_1, hS_0, hS_1]) rfl (retQ_yes hq ?_)
          exact Ext.drew (Ext.set (Ext.set (Ext.set (Ext.set xw (by omega)) (by omega)) (by omega)) (by omega))
      · obtain ⟨e1, e2⟩ := floor_less (a := a) h0 hr hs
        have hq1 := floor_room ha h0 hr
        have hr1 : W128 (a.tmod b + b) := by
          obtain ⟨k1, k2, k3⟩ := tdm (a := a) h0
          unfold W128 at *
          omega
        have hrW := tmod_W (a := a) hb h0
        rw [e1, e2]
        have hsg : (decide (hi (a.tmod b) < 0) == decide (hi b < 0)) = false := by
          simp only [beq_eq_false_iff_ne, ne_eq, decide_eq_decide, hi_neg]; exact hs
        have hW1 : W128 1 := by unfold W128; omega
        clear e1 e2
        by_cases hz : hi (a.tmod b) = 0
        · have g1 : (hi (a.tmod b) == 0) = true := by simpa using hz
          have g2 : (lo (a.tmod b) == 0) = false := by
            simp only [beq_eq_false_iff_ne, ne_eq]; intro h; apply hr; rw [hi_lo (a.tmod b), hz, h]; rfl
          clear hz hr hs
          go_enter Try.func56, Try.ntmps56
          go_wp2_with fail
          obtain ⟨W, hW⟩ : ∃ W, W = (((w.alloc (.cells #[.int .i64 (hi a), .int .u64 (lo a)] 26)).alloc (.cells #[.int .i64 (hi b), .int .u64 (lo b)] 26)).alloc (.cells #[.int .i64 0, .int .u64 0] 26)).alloc (.cells #[.int .i64 0, .int .u64 0] 26) := ⟨_, rfl⟩
          rw [← hW]
          have hB : Box2 W (w.heap.size + 1) (.int .i64 (hi b)) (.int .u64 (lo b)) 26 := by rw [hW]; exact ((Box2.new (by simp)).alloc _).alloc _
          have hR : Box2 W (w.heap.size + 1 + 1) (.int .i64 0) (.int .u64 0) 26 := by rw [hW]; exact (Box2.new (by simp)).alloc _
          have hS : Box2 W (w.heap.size + 1 + 1 + 1) (.int .i64 0) (.int .u64 0) 26 := by rw [hW]; exact Box2.new (by simp)
          have xw : Ext w W := by rw [hW]; exact (Ext.refl w).alloc.alloc.alloc.alloc
          clear hW
          refine (H1.out _).mono ?_
          rintro e w1 ⟨rfl, x1⟩
          (first | replace xw := Ext.trans xw x1 | replace xw := Ext.trans (Ext.alloc xw) x1 | replace xw := Ext.trans (Ext.drew xw) x1 | replace xw := Ext.trans (Ext.alloc (Ext.drew xw)) x1); (first | replace hB := hB.ext x1 | replace hB := (hB.alloc _).ext x1 | replace hB := hB.drew.ext x1 | replace hB := (hB.drew.alloc _).ext x1); (first | replace hR := hR.ext x1 | replace hR := (hR.alloc _).ext x1 | replace hR := hR.drew.ext x1 | replace hR := (hR.drew.alloc _).ext x1); (first | replace hS := hS.ext x1 | replace hS := (hS.alloc _).ext x1 | replace hS := hS.drew.ext x1 | replace hS := (hS.drew.alloc _).ext x1)
          have y1 := hS.kind.lt
          rw [thi_yes hq, tlo_yes hq, ter_yes hq, show qh (a.tdiv b) (a.tmod b) = hi (a.tmod b) from if_pos hq, show ql (a.tdiv b) (a.tmod b) = lo (a.tmod b) from if_pos hq]
          obtain ⟨V, hV⟩ : ∃ V, V = (w1.alloc (.cells #[.int .i64 (hi (a.tdiv b)), .int .u64 (lo (a.tdiv b))] 26)).alloc (.cells #[.int .i64 (hi (a.tmod b)), .int .u64 (lo (a.tmod b))] 26) := ⟨_, rfl⟩
          have hP : Box2 V w1.heap.size (.int .i64 (hi (a.tdiv b))) (.int .u64 (lo (a.tdiv b))) 26 := by rw [hV]; exact (Box2.new rfl).alloc _
          have hQ : Box2 V (w1.heap.size + 1) (.int .i64 (hi (a.tmod b))) (.int .u64 (lo (a.tmod b))) 26 := by rw [hV]; exact Box2.new (by simp)
          replace hB := hB.named2 hV
          replace hR := hR.named2 hV
          replace hS := hS.named2 hV
          replace xw : Ext w V := by rw [hV]; exact Ext.alloc (Ext.alloc xw)
          have kB := hB
          rw [hV] at kB
          have kQ := hQ
          rw [hV] at kQ
          have kB_0 := kB.c0; have kB_1 := kB.c1; have kQ_0 := kQ.c0; have kQ_1 := kQ.c1
          go_wp2_with fail
          rw [← hV]
          clear kB_0 kB_1 kQ_0 kQ_1
          clear kB kQ hV
          go_cut [9] (fun s9 wx => s9 = .int .i64 0 ∧ Box2 wx w1.heap.size (.int .i64 (hi (a.tdiv b - 1))) (.int .u64 (lo (a.tdiv b - 1))) 26 ∧ Box2 wx (w1.heap.size + 1) (.int .i64 (hi (a.tmod b))) (.int .u64 (lo (a.tmod b))) 26 ∧
            Box2 wx (w.heap.size + 1) (.int .i64 (hi b)) (.int .u64 (lo b)) 26 ∧ Box2 wx (w.heap.size + 1 + 1) (.int .i64 0) (.int .u64 0) 26 ∧ Box2 wx (w.heap.size + 1 + 1 + 1) (.int .i64 0) (.int .u64 0) 26 ∧ Ext w wx)
          case first =>
            have hP_0 := hP.c0; have hP_1 := hP.c1
            have d0 := hP.drew.c0
            have d1 := hP.drew.c1
            go_region_with (first
              | (go_at_call 32; refine (H2.out 1 _ (by omega) (by omega)).mono ?_; rintro e w2 ⟨rfl, x2⟩; have p := hP.drew.ext x2; have p0 := p.c0; have p1 := p.c1)
              | (go_at_call 47; refine (H3.out (a.tdiv b) 1 _ hq hW1).mono ?_; rw [show RetT _ (a.tdiv b - 1) = fun e w' => e = .returned (.tuple #[.agg #[.int .i64 (hi (a.tdiv b - 1)), .int .u64 (lo (a.tdiv b - 1))], .int .i64 0]) ∧ Ext _ w' from by unfold RetT; rw [thi_yes hq1, tlo_yes hq1, ter_yes hq1]]; rintro e w3 ⟨rfl, x3⟩; have q := (hP.drew.ext x2).ext x3; have q0 := q.c0; have q1 := q.c1; have q2 := q.f0; have q3 := q.f1))
            all_goals
              go_wp2_with fail
              go_meet
              exact ⟨rfl, q.set _ _, ((hQ.drew.ext x2).ext x3).other2 (by omega) _ _, ((hB.drew.ext x2).ext x3).other2 (by omega) _ _, ((hR.drew.ext x2).ext x3).other2 (by omega) _ _, ((hS.drew.ext x2).ext x3).other2 (by omega) _ _, Ext.set (Ext.set (Ext.trans (Ext.trans (Ext.drew xw) x2) x3) (by omega)) (by omega)⟩
          case rest =>
            obtain ⟨rfl, hP, hQ, hB, hR, hS, xw⟩ := hcut
            have hQ_0 := hQ.c0; have hQ_1 := hQ.c1; have hB_0 := hB.c0; have hB_1 := hB.c1
            go_wp2_with fail
            clear hQ_0 hQ_1 hB_0 hB_1
            refine (H4.out _ _ _ hrW hb).mono ?_
            rintro e w4 ⟨rfl, x4⟩
            rw [thi_yes hr1, tlo_yes hr1, ter_yes hr1]
            (first | replace xw := Ext.trans xw x4 | replace xw := Ext.trans (Ext.alloc xw) x4 | replace xw := Ext.trans (Ext.drew xw) x4 | replace xw := Ext.trans (Ext.alloc (Ext.drew xw)) x4); (first | replace hP := hP.ext x4 | replace hP := (hP.alloc _).ext x4 | replace hP := hP.drew.ext x4 | replace hP := (hP.drew.alloc _).ext x4); (first | replace hQ := hQ.ext x4 | replace hQ := (hQ.alloc _).ext x4 | replace hQ := hQ.drew.ext x4 | replace hQ := (hQ.drew.alloc _).ext x4); (first | replace hB := hB.ext x4 | replace hB := (hB.alloc _).ext x4 | replace hB := hB.drew.ext x4 | replace hB := (hB.drew.alloc _).ext x4); (first | replace hR := hR.ext x4 | replace hR := (hR.alloc _).ext x4 | replace hR := hR.drew.ext x4 | replace hR := (hR.drew.alloc _).ext x4); (first | replace hS := hS.ext x4 | replace hS := (hS.alloc _).ext x4 | replace hS := hS.drew.ext x4 | replace hS := (hS.drew.alloc _).ext x4)
            have hQ_0 := hQ.c0; have hQ_1 := hQ.c1
            have hQ_2 := hQ.f0; have hQ_3 := hQ.f1
            go_wp2_with fail
            clear hQ_0 hQ_1 hQ_2 hQ_3
            obtain ⟨U, hU⟩ : ∃ U, U = (w4.setCell ⟨w1.heap.size + 1, 0, none⟩ (.int .i64 (hi (a.tmod b + b)))).setCell ⟨w1.heap.size + 1, 1, none⟩ (.int .u64 (lo (a.tmod b + b))) := ⟨_, rfl⟩
            replace hP : Box2 U w1.heap.size (.int .i64 (hi (a.tdiv b - 1))) (.int .u64 (lo (a.tdiv b - 1))) 26 := by rw [hU]; exact hP.other2 (by omega) _ _
            replace hR : Box2 U (w.heap.size + 1 + 1) (.int .i64 0) (.int .u64 0) 26 := by rw [hU]; exact hR.other2 (by omega) _ _
            replace hS : Box2 U (w.heap.size + 1 + 1 + 1) (.int .i64 0) (.int .u64 0) 26 := by rw [hU]; exact hS.other2 (by omega) _ _
            replace hQ : Box2 U (w1.heap.size + 1) (.int .i64 (hi (a.tmod b + b))) (.int .u64 (lo (a.tmod b + b))) 26 := by rw [hU]; exact hQ.set _ _
            replace xw : Ext w U := by rw [hU]; exact Ext.set (Ext.set xw (by omega)) (by omega)
            rw [← hU]
            clear hU
            have n1 : ¬ w1.heap.size = w.heap.size + 1 + 1 := by omega
            have n2 : ¬ w1.heap.size = w.heap.size + 1 + 1 + 1 := by omega
            have n3 : ¬ w1.heap.size + 1 = w.heap.size + 1 + 1 := by omega
            have n4 : ¬ w1.heap.size + 1 = w.heap.size + 1 + 1 + 1 := by omega
            have n5 : ¬ w.heap.size + 1 + 1 = w1.heap.size := by omega
            have n6 : ¬ w.heap.size + 1 + 1 + 1 = w1.heap.size := by omega
            have n7 : ¬ w.heap.size + 1 = w1.heap.size := by omega
            have n8 : ¬ w.heap.size + 1 + 1 = w1.heap.size + 1 := by omega
            have n9 : ¬ w1.heap.size = w.heap.size + 1 := by omega
            have hP_0 := hP.c0; have hP_1 := hP.c1; have hQ_0 := hQ.c0; have hQ_1 := hQ.c1; have hR_0 := hR.c0; have hR_1 := hR.c1; have hS_0 := hS.c0; have hS_1 := hS.c1
            have hR_2 := hR.f0; have hR_3 := hR.f1; have hS_2 := hS.f0; have hS_3 := hS.f1
            go_region
            go_wp2_with fail
            refine bodyPost_ret (v := .tuple #[.agg #[.int .i64 (hi (a.tdiv b - 1)), .int .u64 (lo (a.tdiv b - 1))], .agg #[.int .i64 (hi (a.tmod b + b)), .int .u64 (lo (a.tmod b + b))], .int .i64 0]) (by simp [results, Try.results56, go_sem, hR_0, hR_1, hS_0, hS_1]) rfl (retQ_yes hq1 ?_)
            exact Ext.drew (Ext.set (Ext.set (Ext.set (Ext.set xw (by omega)) (by omega)) (by omega)) (by omega))
        · have g1 : (hi (a.tmod b) == 0) = false := by simpa using hz
          clear hz hr hs
          go_enter Try.func56, Try.ntmps56
          go_wp2_with fail
          obtain ⟨W, hW⟩ : ∃ W, W = (((w.alloc (.cells #[.int .i64 (hi a), .int .u64 (lo a)] 26)).alloc (.cells #[.int .i64 (hi b), .int .u64 (lo b)] 26)).alloc (.cells #[.int .i64 0, .int .u64 0] 26)).alloc (.cells #[.int .i64 0, .int .u64 0] 26) := ⟨_, rfl⟩
          rw [← hW]
          have hB : Box2 W (w.heap.size + 1) (.int .i64 (hi b)) (.int .u64 (lo b)) 26 := by rw [hW]; exact ((Box2.new (by simp)).alloc _).alloc _
          have hR : Box2 W (w.heap.size + 1 + 1) (.int .i64 0) (.int .u64 0) 26 := by rw [hW]; exact (Box2.new (by simp)).alloc _
          have hS : Box2 W (w.heap.size + 1 + 1 + 1) (.int .i64 0) (.int .u64 0) 26 := by rw [hW]; exact Box2.new (by simp)
          have xw : Ext w W := by rw [hW]; exact (Ext.refl w).alloc.alloc.alloc.alloc
          clear hW
          refine (H1.out _).mono ?_
          rintro e w1 ⟨rfl, x1⟩
          (first | replace xw := Ext.trans xw x1 | replace xw := Ext.trans (Ext.alloc xw) x1 | replace xw := Ext.trans (Ext.drew xw) x1 | replace xw := Ext.trans (Ext.alloc (Ext.drew xw)) x1); (first | replace hB := hB.ext x1 | replace hB := (hB.alloc _).ext x1 | replace hB := hB.drew.ext x1 | replace hB := (hB.drew.alloc _).ext x1); (first | replace hR := hR.ext x1 | replace hR := (hR.alloc _).ext x1 | replace hR := hR.drew.ext x1 | replace hR := (hR.drew.alloc _).ext x1); (first | replace hS := hS.ext x1 | replace hS := (hS.alloc _).ext x1 | replace hS := hS.drew.ext x1 | replace hS := (hS.drew.alloc _).ext x1)
          have y1 := hS.kind.lt
          rw [thi_yes hq, tlo_yes hq, ter_yes hq, show qh (a.tdiv b) (a.tmod b) = hi (a.tmod b) from if_pos hq, show ql (a.tdiv b) (a.tmod b) = lo (a.tmod b) from if_pos hq]
          obtain ⟨V, hV⟩ : ∃ V, V = (w1.alloc (.cells #[.int .i64 (hi (a.tdiv b)), .int .u64 (lo (a.tdiv b))] 26)).alloc (.cells #[.int .i64 (hi (a.tmod b)), .int .u64 (lo (a.tmod b))] 26) := ⟨_, rfl⟩
          have hP : Box2 V w1.heap.size (.int .i64 (hi (a.tdiv b))) (.int .u64 (lo (a.tdiv b))) 26 := by rw [hV]; exact (Box2.new rfl).alloc _
          have hQ : Box2 V (w1.heap.size + 1) (.int .i64 (hi (a.tmod b))) (.int .u64 (lo (a.tmod b))) 26 := by rw [hV]; exact Box2.new (by simp)
          replace hB := hB.named2 hV
          replace hR := hR.named2 hV
          replace hS := hS.named2 hV
          replace xw : Ext w V := by rw [hV]; exact Ext.alloc (Ext.alloc xw)
          have kB := hB
          rw [hV] at kB
          have kQ := hQ
          rw [hV] at kQ
          have kB_0 := kB.c0; have kB_1 := kB.c1; have kQ_0 := kQ.c0; have kQ_1 := kQ.c1
          go_wp2_with fail
          rw [← hV]
          clear kB_0 kB_1 kQ_0 kQ_1
          clear kB kQ hV
          go_cut [9] (fun s9 wx => s9 = .int .i64 0 ∧ Box2 wx w1.heap.size (.int .i64 (hi (a.tdiv b - 1))) (.int .u64 (lo (a.tdiv b - 1))) 26 ∧ Box2 wx (w1.heap.size + 1) (.int .i64 (hi (a.tmod b))) (.int .u64 (lo (a.tmod b))) 26 ∧
            Box2 wx (w.heap.size + 1) (.int .i64 (hi b)) (.int .u64 (lo b)) 26 ∧ Box2 wx (w.heap.size + 1 + 1) (.int .i64 0) (.int .u64 0) 26 ∧ Box2 wx (w.heap.size + 1 + 1 + 1) (.int .i64 0) (.int .u64 0) 26 ∧ Ext w wx)
          case first =>
            have hP_0 := hP.c0; have hP_1 := hP.c1
            have d0 := hP.drew.c0
            have d1 := hP.drew.c1
            go_region_with (first
              | (go_at_call 32; refine (H2.out 1 _ (by omega) (by omega)).mono ?_; rintro e w2 ⟨rfl, x2⟩; have p := hP.drew.ext x2; have p0 := p.c0; have p1 := p.c1)
              | (go_at_call 47; refine (H3.out (a.tdiv b) 1 _ hq hW1).mono ?_; rw [show RetT _ (a.tdiv b - 1) = fun e w' => e = .returned (.tuple #[.agg #[.int .i64 (hi (a.tdiv b - 1)), .int .u64 (lo (a.tdiv b - 1))], .int .i64 0]) ∧ Ext _ w' from by unfold RetT; rw [thi_yes hq1, tlo_yes hq1, ter_yes hq1]]; rintro e w3 ⟨rfl, x3⟩; have q := (hP.drew.ext x2).ext x3; have q0 := q.c0; have q1 := q.c1; have q2 := q.f0; have q3 := q.f1))
            all_goals
              go_wp2_with fail
              go_meet
              exact ⟨rfl, q.set _ _, ((hQ.drew.ext x2).ext x3).other2 (by omega) _ _, ((hB.drew.ext x2).ext x3).other2 (by omega) _ _, ((hR.drew.ext x2).ext x3).other2 (by omega) _ _, ((hS.drew.ext x2).ext x3).other2 (by omega) _ _, Ext.set (Ext.set (Ext.trans (Ext.trans (Ext.drew xw) x2) x3) (by omega)) (by omega)⟩
          case rest =>
            obtain ⟨rfl, hP, hQ, hB, hR, hS, xw⟩ := hcut
            have hQ_0 := hQ.c0; have hQ_1 := hQ.c1; have hB_0 := hB.c0; have hB_1 := hB.c1
            go_wp2_with fail
            clear hQ_0 hQ_1 hB_0 hB_1
            refine (H4.out _ _ _ hrW hb).mono ?_
            rintro e w4 ⟨rfl, x4⟩
            rw [thi_yes hr1, tlo_yes hr1, ter_yes hr1]
            (first | replace xw := Ext.trans xw x4 | replace xw := Ext.trans (Ext.alloc xw) x4 | replace xw := Ext.trans (Ext.drew xw) x4 | replace xw := Ext.trans (Ext.alloc (Ext.drew xw)) x4); (first | replace hP := hP.ext x4 | replace hP := (hP.alloc _).ext x4 | replace hP := hP.drew.ext x4 | replace hP := (hP.drew.alloc _).ext x4); (first | replace hQ := hQ.ext x4 | replace hQ := (hQ.alloc _).ext x4 | replace hQ := hQ.drew.ext x4 | replace hQ := (hQ.drew.alloc _).ext x4); (first | replace hB := hB.ext x4 | replace hB := (hB.alloc _).ext x4 | replace hB := hB.drew.ext x4 | replace hB := (hB.drew.alloc _).ext x4); (first | replace hR := hR.ext x4 | replace hR := (hR.alloc _).ext x4 | replace hR := hR.drew.ext x4 | replace hR := (hR.drew.alloc _).ext x4); (first | replace hS := hS.ext x4 | replace hS := (hS.alloc _).ext x4 | replace hS := hS.drew.ext x4 | replace hS := (hS.drew.alloc _).ext x4)
            have hQ_0 := hQ.c0; have hQ_1 := hQ.c1
            have hQ_2 := hQ.f0; have hQ_3 := hQ.f1
            go_wp2_with fail
            clear hQ_0 hQ_1 hQ_2 hQ_3
            obtain ⟨U, hU⟩ : ∃ U, U = (w4.setCell ⟨w1.heap.size + 1, 0, none⟩ (.int .i64 (hi (a.tmod b + b)))).setCell ⟨w1.heap.size + 1, 1, none⟩ (.int .u64 (lo (a.tmod b + b))) := ⟨_, rfl⟩
            replace hP : Box2 U w1.heap.size (.int .i64 (hi (a.tdiv b - 1))) (.int .u64 (lo (a.tdiv b - 1))) 26 := by rw [hU]; exact hP.other2 (by omega) _ _
            replace hR : Box2 U (w.heap.size + 1 + 1) (.int .i64 0) (.int .u64 0) 26 := by rw [hU]; exact hR.other2 (by omega) _ _
            replace hS : Box2 U (w.heap.size + 1 + 1 + 1) (.int .i64 0) (.int .u64 0) 26 := by rw [hU]; exact hS.other2 (by omega) _ _
            replace hQ : Box2 U (w1.heap.size + 1) (.int .i64 (hi (a.tmod b + b))) (.int .u64 (lo (a.tmod b + b))) 26 := by rw [hU]; exact hQ.set _ _
            replace xw : Ext w U := by rw [hU]; exact Ext.set (Ext.set xw (by omega)) (by omega)
            rw [← hU]
            clear hU
            have n1 : ¬ w1.heap.size = w.heap.size + 1 + 1 := by omega
            have n2 : ¬ w1.heap.size = w.heap.size + 1 + 1 + 1 := by omega
            have n3 : ¬ w1.heap.size + 1 = w.heap.size + 1 + 1 := by omega
            have n4 : ¬ w1.heap.size + 1 = w.heap.size + 1 + 1 + 1 := by omega
            have n5 : ¬ w.heap.size + 1 + 1 = w1.heap.size := by omega
            have n6 : ¬ w.heap.size + 1 + 1 + 1 = w1.heap.size := by omega
            have n7 : ¬ w.heap.size + 1 = w1.heap.size := by omega
            have n8 : ¬ w.heap.size + 1 + 1 = w1.heap.size + 1 := by omega
            have n9 : ¬ w1.heap.size = w.heap.size + 1 := by omega
            have hP_0 := hP.c0; have hP_1 := hP.c1; have hQ_0 := hQ.c0; have hQ_1 := hQ.c1; have hR_0 := hR.c0; have hR_1 := hR.c1; have hS_0 := hS.c0; have hS_1 := hS.c1
            have hR_2 := hR.f0; have hR_3 := hR.f1; have hS_2 := hS.f0; have hS_3 := hS.f1
            go_region
            go_wp2_with fail
            refine bodyPost_ret (v := .tuple #[.agg #[.int .i64 (hi (a.tdiv b - 1)), .int .u64 (lo (a.tdiv b - 1))], .agg #[.int .i64 (hi (a.tmod b + b)), .int .u64 (lo (a.tmod b + b))], .int .i64 0]) (by simp [results, Try.results56, go_sem, hR_0, hR_1, hS_0, hS_1]) rfl (retQ_yes hq1 ?_)
            exact Ext.drew (Ext.set (Ext.set (Ext.set (Ext.set xw (by omega)) (by omega)) (by omega)) (by omega))
  · have hr := trunc_room ha h0 hq
    obtain ⟨e1, e2⟩ := floor_same h0 (Or.inl hr)
    have hno : ¬ W128 (a.fdiv b) := by rw [e1]; exact hq
    clear e1 e2 hr
    go_enter Try.func56, Try.ntmps56
    go_wp2_with fail
    obtain ⟨W, hW⟩ : ∃ W, W = (((w.alloc (.cells #[.int .i64 (hi a), .int .u64 (lo a)] 26)).alloc (.cells #[.int .i64 (hi b), .int .u64 (lo b)] 26)).alloc (.cells #[.int .i64 0, .int .u64 0] 26)).alloc (.cells #[.int .i64 0, .int .u64 0] 26) := ⟨_, rfl⟩
    rw [← hW]
    have hB : Box2 W (w.heap.size + 1) (.int .i64 (hi b)) (.int .u64 (lo b)) 26 := by rw [hW]; exact ((Box2.new (by simp)).alloc _).alloc _
    have hR : Box2 W (w.heap.size + 1 + 1) (.int .i64 0) (.int .u64 0) 26 := by rw [hW]; exact (Box2.new (by simp)).alloc _
    have hS : Box2 W (w.heap.size + 1 + 1 + 1) (.int .i64 0) (.int .u64 0) 26 := by rw [hW]; exact Box2.new (by simp)
    have xw : Ext w W := by rw [hW]; exact (Ext.refl w).alloc.alloc.alloc.alloc
    clear hW
    refine (H1.out _).mono ?_
    rintro e w1 ⟨rfl, x1⟩
    (first | replace xw := Ext.trans xw x1 | replace xw := Ext.trans (Ext.alloc xw) x1 | replace xw := Ext.trans (Ext.drew xw) x1 | replace xw := Ext.trans (Ext.alloc (Ext.drew xw)) x1); (first | replace hB := hB.ext x1 | replace hB := (hB.alloc _).ext x1 | replace hB := hB.drew.ext x1 | replace hB := (hB.drew.alloc _).ext x1); (first | replace hR := hR.ext x1 | replace hR := (hR.alloc _).ext x1 | replace hR := hR.drew.ext x1 | replace hR := (hR.drew.alloc _).ext x1); (first | replace hS := hS.ext x1 | replace hS := (hS.alloc _).ext x1 | replace hS := hS.drew.ext x1 | replace hS := (hS.drew.alloc _).ext x1)
    have y1 := hS.kind.lt
    rw [thi_no hq, tlo_no hq, ter_no hq, show qh (a.tdiv b) (a.tmod b) = 0 from if_neg hq, show ql (a.tdiv b) (a.tmod b) = 0 from if_neg hq]
    replace hR := (hR.alloc (.cells #[.int .i64 0, .int .u64 0] 26)).alloc (.cells #[.int .i64 0, .int .u64 0] 26)
    replace hS := (hS.alloc (.cells #[.int .i64 0, .int .u64 0] 26)).alloc (.cells #[.int .i64 0, .int .u64 0] 26)
    have hR_0 := hR.c0; have hR_1 := hR.c1; have hS_0 := hS.c0; have hS_1 := hS.c1
    have hR_2 := hR.f0; have hR_3 := hR.f1; have hS_2 := hS.f0; have hS_3 := hS.f1
    go_wp2_with fail
    refine bodyPost_ret (v := .tuple #[.agg #[.int .i64 0, .int .u64 0], .agg #[.int .i64 0, .int .u64 0], .int .i64 2]) (by simp [results, Try.results56, go_sem, hR_0, hR_1, hS_0, hS_1]) rfl (retQ_no hno ?_)
    exact Ext.set (Ext.set (Ext.set (Ext.set (Ext.alloc (Ext.alloc xw)) (by omega)) (by omega)) (by omega)) (by omega)
end Go.Proofs.Ytmkddcmfofabbaa

/-
  divide.By.
-/
namespace Go.Proofs.Ytmkddcmfofabbaa
open Go Go.RowKit

theorem by_math {a n : Int} (ha : W128 a) (hn : 0 < n) : W128 (a.fdiv n) ∧ 0 ≤ a.fmod n ∧ a.fmod n < n := by
  have e1 := Int.fdiv_eq_ediv_of_nonneg a (show 0 ≤ n by omega)
  have e2 := Int.fmod_eq_emod_of_nonneg a (show 0 ≤ n by omega)
  rw [e1, e2]
  have h1 := Int.emod_nonneg a (show n ≠ 0 by omega)
  have h2 := Int.emod_lt_of_pos a hn
  refine ⟨?_, h1, h2⟩
  unfold W128 at *
  by_cases h : 0 ≤ a
  · have := Int.ediv_le_self n h
    have := Int.ediv_nonneg h (show 0 ≤ n by omega)
    omega
  · have h3 : a ≤ a / n := by
      refine Int.le_ediv_of_mul_le hn ?_
      have := Int.mul_le_mul_of_nonpos_left (show a ≤ 0 by omega) (show 1 ≤ n by omega)
      omega
    have h4 : a / n < 0 := Int.ediv_neg_of_neg_of_pos (by omega) hn
    omega
theorem floor_small (a n : Int) (w : World) (ha : W128 a) (hn : 0 < n) (hI : I64 n) :
    Calls Try.prog 56 #[.agg #[.int .i64 (hi a), .int .u64 (lo a)], .agg #[.int .i64 (hi n), .int .u64 (lo n)]] w (RetQ w (a.fdiv n) (a.fmod n)) := by
  refine dfloor a n w ha hI.w (by omega) (fun w => dtrunc a n w ha hI.w (by omega) (fun w => ?_))
  have h1 : mag n = n := mag_pos (by omega)
  have h2 : n < 18446744073709551616 := by unfold I64 at hI; omega
  have h3 : lo n = n ∧ hi n = 0 := by have := small_hl (x := n) (by omega) h2; exact ⟨this.2, this.1⟩
  rw [h1]
  exact over_small (mag a) n w (mag_U ha) hn h2
def ByP (w : World) (a n : Int) (e : Ending) (w' : World) : Prop := e = .returned (.tuple #[.agg #[.int .i64 (hi (a.fdiv n)), .int .u64 (lo (a.fdiv n))], .int .i64 (a.fmod n), .int .i64 0]) ∧ Ext w w'

set_option maxRecDepth 100000 in
set_option maxHeartbeats 3200000 in
theorem dby (a n : Int) (w : World) (ha : W128 a) (hn : 0 < n) (hI : I64 n) :
    Calls Try.prog 63 #[.agg #[.int .i64 (hi a), .int .u64 (lo a)], .int .i64 n] w (ByP w a n) := by
  have H1 := Lib.hid of_pure
  have H2 := Lib.hid floor_small
  obtain ⟨hq, r0, r1⟩ := by_math ha hn
  obtain ⟨n0, n1⟩ := hI
  have hr : lo (a.fmod n) = a.fmod n ∧ hi (a.fmod n) = 0 := by have := small_hl (x := a.fmod n) r0 (by omega); exact ⟨this.2, this.1⟩
  have HR := Lib.hid hr
  have hn' : ¬ n ≤ 0 := by omega
  clear hr
  go_enter Try.func63, Try.ntmps63
  go_wp2_with fail
  obtain ⟨W, hW⟩ : ∃ W, W = (w.alloc (.cells #[.int .i64 (hi a), .int .u64 (lo a)] 26)).alloc (.cells #[.int .i64 0, .int .u64 0] 26) := ⟨_, rfl⟩
  rw [← hW]
  have hA : Box2 W w.heap.size (.int .i64 (hi a)) (.int .u64 (lo a)) 26 := by rw [hW]; exact (Box2.new rfl).alloc _
  have hR : Box2 W (w.heap.size + 1) (.int .i64 0) (.int .u64 0) 26 := by rw [hW]; exact Box2.new (by simp)
  have xw : Ext w W := by rw [hW]; exact (Ext.refl w).alloc.alloc
  have sW : W.heap.size = w.heap.size + 2 := by rw [hW]; simp
  have SW := Lib.hid sW
  clear hW sW
  go_cut [7, 8] (fun s7 s8 wx => ∃ (k7 k8 : Nat), s7 = .pointer (some ⟨k7, 0, none⟩) ∧ s8 = .pointer (some ⟨k8, 0, none⟩) ∧ w.heap.size + 2 ≤ k7 ∧ w.heap.size + 2 ≤ k8 ∧ Box2 wx k7 (.int .i64 (hi (a.fdiv n))) (.int .u64 (lo (a.fdiv n))) 26 ∧
    Box2 wx k8 (.int .i64 (hi (a.fmod n))) (.int .u64 (lo (a.fmod n))) 26 ∧ Box2 wx (w.heap.size + 1) (.int .i64 0) (.int .u64 0) 26 ∧ Ext w wx)
  case first =>
    refine wp_region_noPanic ?_
    refine wp_region_held_drew (S := fun w' => Ext W w') (by kernel_rfl) (Ext.refl W).drew (fun hHeld => ?_)
    have c0 := fun w' (h : Ext W w') => (hA.ext h).c0
    have c1 := fun w' (h : Ext W w') => (hA.ext h).c1
    refine wpAnyH_take (i := 0) (v := .agg #[.int .i64 (hi a), .int .u64 (lo a)]) rfl (by kernel_rfl) (by kernel_rfl) (by kernel_rfl) (fun _ _ _ h => h) (Or.inl ⟨by kernel_rfl, fun w' h => (by go_simp)⟩) hHeld ?_
    refine wpAnyH_take (i := 1) (v := .int .i64 n) rfl (by kernel_rfl) (by kernel_rfl) (by kernel_rfl) (fun _ _ _ h => h) (Or.inl ⟨by kernel_rfl, fun w' h => (by go_simp)⟩) hHeld ?_
    refine region2 (N := 13) (f0 := [0, 1]) (l := [(2, false), (3, false), (4, true), (5, true), (6, true), (7, true)]) (T := [10, 11, 12]) (iA := 8) (dA := 7) (iB := 9) (dB := 8) (oA := .cells #[.int .i64 0, .int .u64 0] 26) (oB := .cells #[.int .i64 0, .int .u64 0] 26) (fun _ _ _ _ _ h => h) (by kernel_rfl) (by kernel_rfl) rfl (by kernel_rfl) (by kernel_rfl)
      (fun K a w h => wpOp_of rfl fun K' hK => (by go_simp; exact hK _ _ h)) (fun K a w h => wpOp_of rfl fun K' hK => (by go_simp; exact hK _ _ h)) (by decide) (by simp [Act.put]) (by simp [Act.put]) (fun _ _ h x => h.trans x) hHeld ?_
    intro a1 v1 h1 y1; obtain ⟨s7, s8, rfl⟩ := away2 h1; refine wpOp_of rfl fun K' hK => ?_; go_simp
    refine (H1.out n _ n0 n1).mono ?_
    rintro e w1 ⟨rfl, hb1⟩
    refine hK _ _ ⟨⟨hb1, rfl, slots2 rfl rfl⟩, ?_⟩; clear hK K'
    intro a1 v2 h1 y2; obtain ⟨s7, s8, rfl⟩ := away2 h1; refine wpOp_of rfl fun K' hK => ?_; go_simp
    refine (H2.out a n _ ha hn ⟨n0, n1⟩).mono ?_
    unfold RetQ
    rw [thi_yes hq, tlo_yes hq, ter_yes hq, show qh (a.fdiv n) (a.fmod n) = hi (a.fmod n) from if_pos hq, show ql (a.fdiv n) (a.fmod n) = lo (a.fmod n) from if_pos hq]
    rintro e w3 ⟨rfl, hb2⟩
    refine hK _ _ ⟨⟨hb2, rfl, slots2 rfl rfl⟩, ?_⟩; clear hK K'
    have x4 : Ext W w3 := Ext.trans (Ext.trans (Ext.trans (Ext.trans (Ext.refl W).drew y1) hb1) y2) hb2
    refine ⟨_, .tuple #[.agg #[.int .i64 (hi (a.fdiv n)), .int .u64 (lo (a.fdiv n))], .agg #[.int .i64 (hi (a.fmod n)), .int .u64 (lo (a.fmod n))], .int .i64 0], rfl, Or.inl ⟨by rfl, fun w' h => (by go_simp)⟩, by simp, ?_⟩
    refine ⟨_, .agg #[.int .i64 (hi (a.fdiv n)), .int .u64 (lo (a.fdiv n))], rfl, Or.inl ⟨by rfl, fun w' h => (by go_simp)⟩, by simp, ?_⟩
    refine ⟨_, .agg #[.int .i64 (hi (a.fmod n)), .int .u64 (lo (a.fmod n))], rfl, Or.inl ⟨by rfl, fun w' h => (by go_simp)⟩, by simp, ?_⟩
    refine ⟨_, .int .i64 0, rfl, Or.inl ⟨by rfl, fun w' h => (by go_simp)⟩, by simp, ?_⟩
    intro a' w' h y
    obtain ⟨s6, s7, rfl⟩ := away2 h
    rintro k k' ⟨hk1, hk2, hk3⟩ ⟨hl1, hl2, hl3⟩ hne hS'
    simp [Act.put] at hk2 hl2
    subst hk2 hl2
    have hk1' : w.heap.size + 2 ≤ k := by rw [← SW.out]; exact hk1
    have hl1' : w.heap.size + 2 ≤ k' := by rw [← SW.out]; exact hl1
    have hkb : Box2 w' k (.int .i64 0) (.int .u64 0) 26 := hk3
    have hlb : Box2 w' k' (.int .i64 0) (.int .u64 0) 26 := hl3
    have k0 := hkb.c0
    have k1 := hkb.c1
    have k2 := hkb.f0
    have k3 := hkb.f1
    have hBq := hkb.set (.int .i64 (hi (a.fdiv n))) (.int .u64 (lo (a.fdiv n)))
    have hBr := hlb.other2 (Ne.symm hne) (.int .i64 (hi (a.fdiv n))) (.int .u64 (lo (a.fdiv n)))
    have hSq : Ext W ((w'.setCell ⟨k, 0, none⟩ (.int .i64 (hi (a.fdiv n)))).setCell ⟨k, 1, none⟩ (.int .u64 (lo (a.fdiv n)))) := (hS'.set hk1).set hk1
    have l0 := hBr.c0
    have l1 := hBr.c1
    have l2 := hBr.f0
    have l3 := hBr.f1
    refine wpOp_of rfl fun K' hK => ?_
    go_simp
    refine hK _ _ ⟨hSq, ?_⟩
    clear hK K'
    refine wpOp_of rfl fun K' hK => ?_
    go_simp
    refine hK _ _ ⟨(hSq.set hl1).set hl1, ?_⟩
    clear hK K'
    refine wpOp_of rfl fun K' hK => ?_
    go_simp
    refine hK _ _ ⟨(hSq.set hl1).set hl1, ?_⟩
    clear hK K'
    refine NoPanic.normal ?_
    go_wp2_with fail
    go_meet
    exact ⟨k, k', rfl, rfl, hk1', hl1', hBq.other2 hne _ _, hBr.set _ _, hR.ext ((hSq.set hl1).set hl1), xw.trans ((hSq.set hl1).set hl1)⟩
  case rest =>
    obtain ⟨k7, k8, rfl, rfl, z7, z8, hQ, hT, hR, xw⟩ := hcut
    rw [HR.out.1] at hT
    have n7 : ¬ k7 = w.heap.size + 1 := by omega
    have n8 : ¬ k8 = w.heap.size + 1 := by omega
    have n9 : ¬ w.heap.size + 1 = k7 := by omega
    have n10 : ¬ w.heap.size + 1 = k8 := by omega
    clear hA SW
    have hQ_0 := hQ.c0; have hQ_1 := hQ.c1; have hT_0 := hT.c0; have hT_1 := hT.c1; have hR_0 := hR.c0; have hR_1 := hR.c1
    have hR_2 := hR.f0; have hR_3 := hR.f1
    go_wp2_with fail
    go_region
    go_wp2_with fail
    refine bodyPost_ret (v := .tuple #[.agg #[.int .i64 (hi (a.fdiv n)), .int .u64 (lo (a.fdiv n))], .int .i64 (a.fmod n), .int .i64 0]) (by simp [results, Try.results63, go_sem, hR_0, hR_1]) rfl ⟨rfl, ?_⟩
    exact Ext.drew (Ext.set (Ext.set xw (by omega)) (by omega))
end Go.Proofs.Ytmkddcmfofabbaa

/-
  divide.Gcd.
-/
namespace Go.Proofs.Ytmkddcmfofabbaa
open Go Go.RowKit

/-- The number that the two cells of block k hold. -/
def held (k : Nat) (w : World) : Nat :=
  match w.cell? ⟨k, 0, none⟩, w.cell? ⟨k, 1, none⟩ with
  | some (.int _ h), some (.int _ l) => (h * 18446744073709551616 + l).toNat
  | _, _ => 0
theorem held_box {w : World} {k : Nat} {t : TypeId} {n : Nat} (h : Box2 w k (.int .u64 (hi n)) (.int .u64 (lo n)) t) : held k w = n := by
  unfold held
  rw [h.c0, h.c1]
  show ((hi n) * 18446744073709551616 + lo n).toNat = n
  rw [← hi_lo]
  exact Int.toNat_natCast n
theorem gcd_step (b c : Nat) : Nat.gcd b c = Nat.gcd c (b % c) := by rw [Nat.gcd_comm, Nat.gcd_rec, Nat.gcd_comm]
/-- over is right at all numbers up to M. -/
def OverTo (M : Nat) : Prop := ∀ b d : Nat, b ≤ M → 0 < d → d ≤ M → OverC (b : Int) (d : Int)

set_option maxRecDepth 100000 in
set_option maxHeartbeats 1600000 in
theorem dgcd (M b0 c0 : Nat) (w : World) (hb : b0 ≤ M) (hc : c0 ≤ M) (ho : OverTo M) :
    Calls Try.prog 108 #[.agg #[.int .u64 (hi b0), .int .u64 (lo b0)], .agg #[.int .u64 (hi c0), .int .u64 (lo c0)]] w
      (fun e w' => e = .returned (.agg #[.int .u64 (hi ((Nat.gcd b0 c0 : Nat) : Int)), .int .u64 (lo ((Nat.gcd b0 c0 : Nat) : Int))]) ∧ Ext w w') := by
  have H1 := Lib.hid ho
  clear ho
  go_enter Try.func108, Try.ntmps108
  go_wp2_with fail
  obtain ⟨W, hW⟩ : ∃ W, W = ((w.alloc (.cells #[.int .u64 (hi b0), .int .u64 (lo b0)] 123)).alloc (.cells #[.int .u64 (hi c0), .int .u64 (lo c0)] 123)).alloc (.cells #[.int .u64 0, .int .u64 0] 123) := ⟨_, rfl⟩
  rw [← hW]
  have hB : Box2 W w.heap.size (.int .u64 (hi b0)) (.int .u64 (lo b0)) 123 := by rw [hW]; exact ((Box2.new rfl).alloc _).alloc _
  have hC : Box2 W (w.heap.size + 1) (.int .u64 (hi c0)) (.int .u64 (lo c0)) 123 := by rw [hW]; exact (Box2.new (by simp)).alloc _
  have hR : Box2 W (w.heap.size + 1 + 1) (.int .u64 0) (.int .u64 0) 123 := by rw [hW]; exact Box2.new (by simp)
  have xw : Ext w W := by rw [hW]; exact (Ext.refl w).alloc.alloc.alloc
  clear hW
  go_loopw [5] (fun _ wr => ∃ k c : Nat, k ≤ M ∧ c ≤ M ∧ Nat.gcd k c = Nat.gcd b0 c0 ∧ Box2 wr w.heap.size (.int .u64 (hi k)) (.int .u64 (lo k)) 123 ∧
    Box2 wr (w.heap.size + 1) (.int .u64 (hi c)) (.int .u64 (lo c)) 123 ∧ Box2 wr (w.heap.size + 1 + 1) (.int .u64 0) (.int .u64 0) 123 ∧ Ext w wr) (fun _ wr => held (w.heap.size + 1) wr)
  case atStart => exact ⟨b0, c0, hb, hc, rfl, hB, hC, hR, xw⟩
  case round =>
    clear hB hC hR xw hb hc
    obtain ⟨k, c, hk, hc, hg, hB, hC, hR, xw⟩ := hrel
    have HG := Lib.hid hg
    have hm := Lib.hid (held_box hC)
    clear hg
    have hB_0 := hB.c0; have hB_1 := hB.c1; have hC_0 := hC.c0; have hC_1 := hC.c1
    by_cases hc0 : c = 0
    · have g1 : (hi (c : Int) == 0) = true := by subst hc0; rfl
      have g2 : (lo (c : Int) == 0) = true := by subst hc0; rfl
      have HC0 := Lib.hid hc0
      clear hc0
      have hR_0 := hR.c0; have hR_1 := hR.c1
      have hR_2 := hR.f0; have hR_3 := hR.f1
      go_wp2_with fail
      have hgk : Nat.gcd b0 c0 = k := by rw [← HG.out, HC0.out, Nat.gcd_zero_right]
      refine bodyPost_ret (v := .agg #[.int .u64 (hi (k : Int)), .int .u64 (lo (k : Int))]) (by simp [results, Try.results108, go_sem, hR_0, hR_1]) rfl ⟨by rw [hgk], Ext.set (Ext.set xw (by omega)) (by omega)⟩
    · by_cases hz : hi (c : Int) = 0
      · have g1 : (hi (c : Int) == 0) = true := by simpa using hz
        have g2 : (lo (c : Int) == 0) = false := by
          simp only [beq_eq_false_iff_ne, ne_eq]; intro h; have := hi_lo (c : Int); omega
        clear hz
        obtain ⟨q, hq⟩ : ∃ q : Nat, q = k / c := ⟨_, rfl⟩
        obtain ⟨r, hr⟩ : ∃ r : Nat, r = k % c := ⟨_, rfl⟩
        have hrc : r < c := by rw [hr]; exact Nat.mod_lt _ (by omega)
        have HQ := Lib.hid (show ((k : Int) / (c : Int)) = (q : Int) by rw [hq]; omega)
        have HS := Lib.hid (show ((k : Int) % (c : Int)) = (r : Int) by rw [hr]; omega)
        have HN := Lib.hid (show Nat.gcd c r = Nat.gcd b0 c0 by rw [hr, ← gcd_step, HG.out])
        clear hq hr
        go_wp2_with fail
        refine (H1.out k c hk (by omega) hc _).mono ?_
        rw [HQ.out, HS.out]
        rintro e w1 ⟨rfl, x1⟩
        clear hB_0 hB_1 hC_0 hC_1
        (first | replace xw := Ext.trans xw x1 | replace xw := Ext.trans (Ext.alloc xw) x1 | replace xw := Ext.trans (Ext.drew xw) x1 | replace xw := Ext.trans (Ext.alloc (Ext.drew xw)) x1); (first | replace hB := hB.ext x1 | replace hB := (hB.alloc _).ext x1 | replace hB := hB.drew.ext x1 | replace hB := (hB.drew.alloc _).ext x1); (first | replace hC := hC.ext x1 | replace hC := (hC.alloc _).ext x1 | replace hC := hC.drew.ext x1 | replace hC := (hC.drew.alloc _).ext x1); (first | replace hR := hR.ext x1 | replace hR := (hR.alloc _).ext x1 | replace hR := hR.drew.ext x1 | replace hR := (hR.drew.alloc _).ext x1)
        have y1 := hR.kind.lt
        obtain ⟨V, hV⟩ : ∃ V, V = (w1.alloc (.cells #[.int .u64 (hi (q : Int)), .int .u64 (lo (q : Int))] 123)).alloc (.cells #[.int .u64 (hi (r : Int)), .int .u64 (lo (r : Int))] 123) := ⟨_, rfl⟩
        have hT : Box2 V (w1.heap.size + 1) (.int .u64 (hi (r : Int))) (.int .u64 (lo (r : Int))) 123 := by rw [hV]; exact Box2.new (by simp)
        replace hB := hB.named2 hV
        replace hC := hC.named2 hV
        replace hR := hR.named2 hV
        replace xw : Ext w V := by rw [hV]; exact Ext.alloc (Ext.alloc xw)
        go_wp2_with fail
        rw [← hV]
        clear hV x1
        have n1 : ¬ w1.heap.size + 1 = w.heap.size := by omega
        have n2 : ¬ w.heap.size = w1.heap.size + 1 := by omega
        have n3 : ¬ w1.heap.size = w.heap.size := by omega
        have n4 : ¬ w.heap.size = w1.heap.size := by omega
        have hB_0 := hB.c0; have hB_1 := hB.c1; have hC_0 := hC.c0; have hC_1 := hC.c1; have hT_0 := hT.c0; have hT_1 := hT.c1
        have hB_2 := hB.f0; have hB_3 := hB.f1; have hC_2 := hC.f0; have hC_3 := hC.f1
        go_region
        have f1 := (hB.set (.int .u64 (hi (c : Int))) (.int .u64 (lo (c : Int)))).other2 (b := w.heap.size + 1) (by omega) (.int .u64 (hi (r : Int))) (.int .u64 (lo (r : Int)))
        have f2 := (hC.other2 (b := w.heap.size) (by omega) (.int .u64 (hi (c : Int))) (.int .u64 (lo (c : Int)))).set (.int .u64 (hi (r : Int))) (.int .u64 (lo (r : Int)))
        have f3 := (hR.other2 (b := w.heap.size) (by omega) (.int .u64 (hi (c : Int))) (.int .u64 (lo (c : Int)))).other2 (b := w.heap.size + 1) (by omega) (.int .u64 (hi (r : Int))) (.int .u64 (lo (r : Int)))
        have f4 : Ext w ((((V.setCell ⟨w.heap.size, 0, none⟩ (.int .u64 (hi (c : Int)))).setCell ⟨w.heap.size, 1, none⟩ (.int .u64 (lo (c : Int)))).setCell ⟨w.heap.size + 1, 0, none⟩ (.int .u64 (hi (r : Int)))).setCell ⟨w.heap.size + 1, 1, none⟩ (.int .u64 (lo (r : Int)))) := Ext.set (Ext.set (Ext.set (Ext.set xw (by omega)) (by omega)) (by omega)) (by omega)
        go_wp2_with fail
        go_roundw
        case rel => exact ⟨c, r, hc, by omega, HN.out, f1.drew, f2.drew, f3.drew, f4.drew⟩
        case measure => rw [hm.out, held_box f2.drew]; exact hrc
      · have g1 : (hi (c : Int) == 0) = false := by simpa using hz
        clear hz
        obtain ⟨q, hq⟩ : ∃ q : Nat, q = k / c := ⟨_, rfl⟩
        obtain ⟨r, hr⟩ : ∃ r : Nat, r = k % c := ⟨_, rfl⟩
        have hrc : r < c := by rw [hr]; exact Nat.mod_lt _ (by omega)
        have HQ := Lib.hid (show ((k : Int) / (c : Int)) = (q : Int) by rw [hq]; omega)
        have HS := Lib.hid (show ((k : Int) % (c : Int)) = (r : Int) by rw [hr]; omega)
        have HN := Lib.hid (show Nat.gcd c r = Nat.gcd b0 c0 by rw [hr, ← gcd_step, HG.out])
        clear hq hr
        go_wp2_with fail
        refine (H1.out k c hk (by omega) hc _).mono ?_
        rw [HQ.out, HS.out]
        rintro e w1 ⟨rfl, x1⟩
        clear hB_0 hB_1 hC_0 hC_1
        (first | replace xw := Ext.trans xw x1 | replace xw := Ext.trans (Ext.alloc xw) x1 | replace xw := Ext.trans (Ext.drew xw) x1 | replace xw := Ext.trans (Ext.alloc (Ext.drew xw)) x1); (first | replace hB := hB.ext x1 | replace hB := (hB.alloc _).ext x1 | replace hB := hB.drew.ext x1 | replace hB := (hB.drew.alloc _).ext x1); (first | replace hC := hC.ext x1 | replace hC := (hC.alloc _).ext x1 | replace hC := hC.drew.ext x1 | replace hC := (hC.drew.alloc _).ext x1); (first | replace hR := hR.ext x1 | replace hR := (hR.alloc _).ext x1 | replace hR := hR.drew.ext x1 | replace hR := (hR.drew.alloc _).ext x1)
        have y1 := hR.kind.lt
        obtain ⟨V, hV⟩ : ∃ V, V = (w1.alloc (.cells #[.int .u64 (hi (q : Int)), .int .u64 (lo (q : Int))] 123)).alloc (.cells #[.int .u64 (hi (r : Int)), .int .u64 (lo (r : Int))] 123) := ⟨_, rfl⟩
        have hT : Box2 V (w1.heap.size + 1) (.int .u64 (hi (r : Int))) (.int .u64 (lo (r : Int))) 123 := by rw [hV]; exact Box2.new (by simp)
        replace hB := hB.named2 hV
        replace hC := hC.named2 hV
        replace hR := hR.named2 hV
        replace xw : Ext w V := by rw [hV]; exact Ext.alloc (Ext.alloc xw)
        go_wp2_with fail
        rw [← hV]
        clear hV x1
        have n1 : ¬ w1.heap.size + 1 = w.heap.size := by omega
        have n2 : ¬ w.heap.size = w1.heap.size + 1 := by omega
        have n3 : ¬ w1.heap.size = w.heap.size := by omega
        have n4 : ¬ w.heap.size = w1.heap.size := by omega
        have hB_0 := hB.c0; have hB_1 := hB.c1; have hC_0 := hC.c0; have hC_1 := hC.c1; have hT_0 := hT.c0; have hT_1 := hT.c1
        have hB_2 := hB.f0; have hB_3 := hB.f1; have hC_2 := hC.f0; have hC_3 := hC.f1
        go_region
        have f1 := (hB.set (.int .u64 (hi (c : Int))) (.int .u64 (lo (c : Int)))).other2 (b := w.heap.size + 1) (by omega) (.int .u64 (hi (r : Int))) (.int .u64 (lo (r : Int)))
        have f2 := (hC.other2 (b := w.heap.size) (by omega) (.int .u64 (hi (c : Int))) (.int .u64 (lo (c : Int)))).set (.int .u64 (hi (r : Int))) (.int .u64 (lo (r : Int)))
        have f3 := (hR.other2 (b := w.heap.size) (by omega) (.int .u64 (hi (c : Int))) (.int .u64 (lo (c : Int)))).other2 (b := w.heap.size + 1) (by omega) (.int .u64 (hi (r : Int))) (.int .u64 (lo (r : Int)))
        have f4 : Ext w ((((V.setCell ⟨w.heap.size, 0, none⟩ (.int .u64 (hi (c : Int)))).setCell ⟨w.heap.size, 1, none⟩ (.int .u64 (lo (c : Int)))).setCell ⟨w.heap.size + 1, 0, none⟩ (.int .u64 (hi (r : Int)))).setCell ⟨w.heap.size + 1, 1, none⟩ (.int .u64 (lo (r : Int)))) := Ext.set (Ext.set (Ext.set (Ext.set xw (by omega)) (by omega)) (by omega)) (by omega)
        go_wp2_with fail
        go_roundw
        case rel => exact ⟨c, r, hc, by omega, HN.out, f1.drew, f2.drew, f3.drew, f4.drew⟩
        case measure => rw [hm.out, held_box f2.drew]; exact hrc

theorem gcd_to {M b c : Nat} (hb : b ≤ M) (hc : c ≤ M) : Nat.gcd b c ≤ M := by
  by_cases h : b = 0
  · subst h; rw [Nat.gcd_zero_left]; exact hc
  · exact Nat.le_trans (Nat.gcd_le_left c (by omega)) hb
set_option maxRecDepth 100000 in
set_option maxHeartbeats 1600000 in
theorem dGcd (M : Nat) (a b : Int) (w : World) (ha : W128 a) (hb : W128 b) (h1 : a.natAbs ≤ M) (h2 : b.natAbs ≤ M) (hM : M < 340282366920938463463374607431768211456) (ho : OverTo M) :
    Calls Try.prog 61 #[.agg #[.int .i64 (hi a), .int .u64 (lo a)], .agg #[.int .i64 (hi b), .int .u64 (lo b)]] w (RetT w ((Nat.gcd a.natAbs b.natAbs : Nat) : Int)) := by
  have H1 := Lib.hid dparts
  have H2 := Lib.hid dgcd
  have H3 := Lib.hid dsigned
  have hU : U128 ((Nat.gcd a.natAbs b.natAbs : Nat) : Int) := by have := gcd_to h1 h2; unfold U128; omega
  have HO := Lib.hid ho
  clear ho hM
  obtain ⟨A, hA⟩ : ∃ A, A = a.natAbs := ⟨_, rfl⟩
  obtain ⟨B, hBn⟩ : ∃ B, B = b.natAbs := ⟨_, rfl⟩
  rw [← hA, ← hBn] at hU ⊢
  rw [← hA] at h1
  rw [← hBn] at h2
  obtain ⟨G, hG⟩ : ∃ G : Nat, G = Nat.gcd A B := ⟨_, rfl⟩
  rw [← hG] at hU ⊢
  have HAn := Lib.hid hA
  have HBn := Lib.hid hBn
  have HG := Lib.hid hG
  clear hG hA hBn
  go_enter Try.func61, Try.ntmps61
  go_wp2_with fail
  obtain ⟨W, hW⟩ : ∃ W, W = ((w.alloc (.cells #[.int .i64 (hi a), .int .u64 (lo a)] 26)).alloc (.cells #[.int .i64 (hi b), .int .u64 (lo b)] 26)).alloc (.cells #[.int .i64 0, .int .u64 0] 26) := ⟨_, rfl⟩
  rw [← hW]
  have hB : Box2 W (w.heap.size + 1) (.int .i64 (hi b)) (.int .u64 (lo b)) 26 := by rw [hW]; exact (Box2.new (by simp)).alloc _
  have hR : Box2 W (w.heap.size + 1 + 1) (.int .i64 0) (.int .u64 0) 26 := by rw [hW]; exact Box2.new (by simp)
  have xw : Ext w W := by rw [hW]; exact (Ext.refl w).alloc.alloc.alloc
  clear hW
  refine (H1.out _ _ ha).mono ?_
  rw [mag_abs a, ← HAn.out]
  rintro e w1 ⟨rfl, x1⟩
  (first | replace xw := Ext.trans xw x1 | replace xw := Ext.trans (Ext.alloc xw) x1 | replace xw := Ext.trans (Ext.drew xw) x1 | replace xw := Ext.trans (Ext.alloc (Ext.drew xw)) x1); (first | replace hB := hB.ext x1 | replace hB := (hB.alloc _).ext x1 | replace hB := hB.drew.ext x1 | replace hB := (hB.drew.alloc _).ext x1); (first | replace hR := hR.ext x1 | replace hR := (hR.alloc _).ext x1 | replace hR := hR.drew.ext x1 | replace hR := (hR.drew.alloc _).ext x1)
  have hX : Box2 (w1.alloc (.cells #[.int .u64 (hi (A : Int)), .int .u64 (lo (A : Int))] 123)) w1.heap.size (.int .u64 (hi (A : Int))) (.int .u64 (lo (A : Int))) 123 := Box2.new rfl
  replace hB := hB.alloc (.cells #[.int .u64 (hi (A : Int)), .int .u64 (lo (A : Int))] 123)
  replace hR := hR.alloc (.cells #[.int .u64 (hi (A : Int)), .int .u64 (lo (A : Int))] 123)
  have hB_0 := hB.c0; have hB_1 := hB.c1
  go_wp2_with fail
  clear hB_0 hB_1
  refine (H1.out _ _ hb).mono ?_
  rw [mag_abs b, ← HBn.out]
  rintro e w2 ⟨rfl, x2⟩
  clear hB
  (first | replace xw := Ext.trans xw x2 | replace xw := Ext.trans (Ext.alloc xw) x2 | replace xw := Ext.trans (Ext.drew xw) x2 | replace xw := Ext.trans (Ext.alloc (Ext.drew xw)) x2); (first | replace hX := hX.ext x2 | replace hX := (hX.alloc _).ext x2 | replace hX := hX.drew.ext x2 | replace hX := (hX.drew.alloc _).ext x2); (first | replace hR := hR.ext x2 | replace hR := (hR.alloc _).ext x2 | replace hR := hR.drew.ext x2 | replace hR := (hR.drew.alloc _).ext x2)
  have hY : Box2 (w2.alloc (.cells #[.int .u64 (hi (B : Int)), .int .u64 (lo (B : Int))] 123)) w2.heap.size (.int .u64 (hi (B : Int))) (.int .u64 (lo (B : Int))) 123 := Box2.new rfl
  replace hX := hX.alloc (.cells #[.int .u64 (hi (B : Int)), .int .u64 (lo (B : Int))] 123)
  replace hR := hR.alloc (.cells #[.int .u64 (hi (B : Int)), .int .u64 (lo (B : Int))] 123)
  have hX_0 := hX.c0; have hX_1 := hX.c1; have hY_0 := hY.c0; have hY_1 := hY.c1
  go_wp2_with fail
  clear hX_0 hX_1 hY_0 hY_1
  clear hX hY
  refine (H2.out M A B _ h1 h2 HO.out).mono ?_
  rw [← HG.out]
  rintro e w3 ⟨rfl, x3⟩
  (first | replace xw := Ext.trans xw x3 | replace xw := Ext.trans (Ext.alloc xw) x3 | replace xw := Ext.trans (Ext.drew xw) x3 | replace xw := Ext.trans (Ext.alloc (Ext.drew xw)) x3); (first | replace hR := hR.ext x3 | replace hR := (hR.alloc _).ext x3 | replace hR := hR.drew.ext x3 | replace hR := (hR.drew.alloc _).ext x3)
  go_wp2_with fail
  refine (H3.out _ _ _ hU).mono ?_
  rw [wsg_f]
  rintro e w4 ⟨rfl, x4⟩
  (first | replace xw := Ext.trans xw x4 | replace xw := Ext.trans (Ext.alloc xw) x4 | replace xw := Ext.trans (Ext.drew xw) x4 | replace xw := Ext.trans (Ext.alloc (Ext.drew xw)) x4); (first | replace hR := hR.ext x4 | replace hR := (hR.alloc _).ext x4 | replace hR := hR.drew.ext x4 | replace hR := (hR.drew.alloc _).ext x4)
  have hR_0 := hR.c0; have hR_1 := hR.c1
  have hR_2 := hR.f0; have hR_3 := hR.f1
  go_wp2_with fail
  refine bodyPost_ret (v := .tuple #[.agg #[.int .i64 (thi (G : Int)), .int .u64 (tlo (G : Int))], .int .i64 (ter (G : Int))]) (by simp [results, Try.results61, go_sem, hR_0, hR_1]) rfl ⟨rfl, ?_⟩
  exact Ext.set (Ext.set xw (by omega)) (by omega)
theorem over_to (M : Nat) (h : M < 18446744073709551616) : OverTo M := by
  intro b d hb hd hd'
  exact fun w => over_small b d w (by unfold U128; omega) (by omega) (by omega)
end Go.Proofs.Ytmkddcmfofabbaa

/-
  The reference's Told and Floor of layer 3.
-/
namespace Go.Proofs.Ytmkddcmfofabbaa
open Go Go.RowKit

theorem IsZ.named2 {V w : World} {neg : Bool} {sv : Value} {n : Int} {o o' : Obj} (h : IsZ w neg sv n) (e : V = (w.alloc o).alloc o') : IsZ V neg sv n := by rw [e]; exact (h.alloc o).alloc o'
set_option maxRecDepth 100000 in
set_option maxHeartbeats 1600000 in
theorem ztold3 (na nb : Bool) (aa ab : Option Addr) (la ca lb cb : Nat) (q r : Int) (w : World) (hq : IsZ w na (.slice aa la ca) q) (hr : IsZ w nb (.slice ab lb cb) r) (hb1 : Bits 1000 q) (hb2 : Bits 1000 r) (hrW : W128 r) :
    Calls Try.prog 103 #[.agg #[.bool na, .slice aa la ca], .agg #[.bool nb, .slice ab lb cb]] w (RetQ w q r) := by
  have H1 := Lib.hid told_any
  have HB1 := Lib.hid hb1
  have HB2 := Lib.hid hb2
  clear hb1 hb2
  by_cases hI : W128 q
  · go_enter Try.func103, Try.ntmps103
    go_wp2_with fail
    obtain ⟨W, hW⟩ : ∃ W, W = (((w.alloc (.cells #[.bool na, .slice aa la ca] 37)).alloc (.cells #[.bool nb, .slice ab lb cb] 37)).alloc (.cells #[.int .i64 0, .int .u64 0] 26)).alloc (.cells #[.int .i64 0, .int .u64 0] 26) := ⟨_, rfl⟩
    rw [← hW]
    have hB : Box2 W (w.heap.size + 1) (.bool nb) (.slice ab lb cb) 37 := by rw [hW]; exact ((Box2.new (by simp)).alloc _).alloc _
    have hR : Box2 W (w.heap.size + 1 + 1) (.int .i64 0) (.int .u64 0) 26 := by rw [hW]; exact (Box2.new (by simp)).alloc _
    have hS : Box2 W (w.heap.size + 1 + 1 + 1) (.int .i64 0) (.int .u64 0) 26 := by rw [hW]; exact Box2.new (by simp)
    have xw : Ext w W := by rw [hW]; exact (Ext.refl w).alloc.alloc.alloc.alloc
    have hza := hq.ext xw
    have hzb := hr.ext xw
    clear hW
    refine (H1.out _ _ _ _ q _ hza HB1.out).mono ?_
    rintro e w1 ⟨rfl, x1⟩
    rw [thi_yes hI, tlo_yes hI, ter_yes hI]
    (first | replace xw := Ext.trans xw x1 | replace xw := Ext.trans (Ext.alloc xw) x1 | replace xw := Ext.trans (Ext.drew xw) x1 | replace xw := Ext.trans (Ext.alloc (Ext.drew xw)) x1); (first | replace hB := hB.ext x1 | replace hB := (hB.alloc _).ext x1 | replace hB := hB.drew.ext x1 | replace hB := (hB.drew.alloc _).ext x1); (first | replace hR := hR.ext x1 | replace hR := (hR.alloc _).ext x1 | replace hR := hR.drew.ext x1 | replace hR := (hR.drew.alloc _).ext x1); (first | replace hS := hS.ext x1 | replace hS := (hS.alloc _).ext x1 | replace hS := hS.drew.ext x1 | replace hS := (hS.drew.alloc _).ext x1); (first | replace hzb := hzb.ext x1 | replace hzb := (hzb.alloc _).ext x1 | replace hzb := hzb.drew.ext x1 | replace hzb := (hzb.drew.alloc _).ext x1)
    have y1 := hS.kind.lt
    obtain ⟨V, hV⟩ : ∃ V, V = w1.alloc (.cells #[.int .i64 (hi q), .int .u64 (lo q)] 26) := ⟨_, rfl⟩
    have hP : Box2 V w1.heap.size (.int .i64 (hi q)) (.int .u64 (lo q)) 26 := by rw [hV]; exact Box2.new rfl
    have kB := hB.alloc (.cells #[.int .i64 (hi q), .int .u64 (lo q)] 26)
    replace hR := hR.named hV
    replace hS := hS.named hV
    replace hzb := hzb.named hV
    replace xw : Ext w V := by rw [hV]; exact Ext.alloc xw
    have kB_0 := kB.c0; have kB_1 := kB.c1
    go_wp2_with fail
    clear kB_0 kB_1
    clear kB hB
    rw [← hV]
    clear hV x1
    refine (H1.out _ _ _ _ r _ hzb HB2.out).mono ?_
    rintro e w2 ⟨rfl, x2⟩
    rw [thi_yes hrW, tlo_yes hrW, ter_yes hrW]
    (first | replace xw := Ext.trans xw x2 | replace xw := Ext.trans (Ext.alloc xw) x2 | replace xw := Ext.trans (Ext.drew xw) x2 | replace xw := Ext.trans (Ext.alloc (Ext.drew xw)) x2); (first | replace hP := hP.ext x2 | replace hP := (hP.alloc _).ext x2 | replace hP := hP.drew.ext x2 | replace hP := (hP.drew.alloc _).ext x2); (first | replace hR := hR.ext x2 | replace hR := (hR.alloc _).ext x2 | replace hR := hR.drew.ext x2 | replace hR := (hR.drew.alloc _).ext x2); (first | replace hS := hS.ext x2 | replace hS := (hS.alloc _).ext x2 | replace hS := hS.drew.ext x2 | replace hS := (hS.drew.alloc _).ext x2)
    have y2 := hS.kind.lt
    obtain ⟨U, hU⟩ : ∃ U, U = w2.alloc (.cells #[.int .i64 (hi r), .int .u64 (lo r)] 26) := ⟨_, rfl⟩
    have hQ : Box2 U w2.heap.size (.int .i64 (hi r)) (.int .u64 (lo r)) 26 := by rw [hU]; exact Box2.new rfl
    replace hP := hP.named hU
    replace hR := hR.named hU
    replace hS := hS.named hU
    replace xw : Ext w U := by rw [hU]; exact Ext.alloc xw
    go_wp2_with fail
    rw [← hU]
    have n1 : ¬ w1.heap.size = w.heap.size + 1 + 1 := by omega
    have n2 : ¬ w1.heap.size = w.heap.size + 1 + 1 + 1 := by omega
    have n3 : ¬ w2.heap.size = w.heap.size + 1 + 1 := by omega
    have n4 : ¬ w2.heap.size = w.heap.size + 1 + 1 + 1 := by omega
    have n5 : ¬ w.heap.size + 1 + 1 = w1.heap.size := by omega
    have n6 : ¬ w.heap.size + 1 + 1 + 1 = w1.heap.size := by omega
    have n7 : ¬ w.heap.size + 1 + 1 = w2.heap.size := by omega
    have n8 : ¬ w.heap.size + 1 + 1 + 1 = w2.heap.size := by omega
    clear hU x2
    have hP_0 := hP.c0; have hP_1 := hP.c1; have hQ_0 := hQ.c0; have hQ_1 := hQ.c1; have hR_0 := hR.c0; have hR_1 := hR.c1; have hS_0 := hS.c0; have hS_1 := hS.c1
    have hR_2 := hR.f0; have hR_3 := hR.f1; have hS_2 := hS.f0; have hS_3 := hS.f1
    go_region
    go_wp2_with fail
    refine bodyPost_ret (v := .tuple #[.agg #[.int .i64 (hi q), .int .u64 (lo q)], .agg #[.int .i64 (hi r), .int .u64 (lo r)], .int .i64 0]) (by simp [results, Try.results103, go_sem, hR_0, hR_1, hS_0, hS_1]) rfl (retQ_yes hI ?_)
    exact Ext.drew (Ext.set (Ext.set (Ext.set (Ext.set xw (by omega)) (by omega)) (by omega)) (by omega))
  · go_enter Try.func103, Try.ntmps103
    go_wp2_with fail
    obtain ⟨W, hW⟩ : ∃ W, W = (((w.alloc (.cells #[.bool na, .slice aa la ca] 37)).alloc (.cells #[.bool nb, .slice ab lb cb] 37)).alloc (.cells #[.int .i64 0, .int .u64 0] 26)).alloc (.cells #[.int .i64 0, .int .u64 0] 26) := ⟨_, rfl⟩
    rw [← hW]
    have hB : Box2 W (w.heap.size + 1) (.bool nb) (.slice ab lb cb) 37 := by rw [hW]; exact ((Box2.new (by simp)).alloc _).alloc _
    have hR : Box2 W (w.heap.size + 1 + 1) (.int .i64 0) (.int .u64 0) 26 := by rw [hW]; exact (Box2.new (by simp)).alloc _
    have hS : Box2 W (w.heap.size + 1 + 1 + 1) (.int .i64 0) (.int .u64 0) 26 := by rw [hW]; exact Box2.new (by simp)
    have xw : Ext w W := by rw [hW]; exact (Ext.refl w).alloc.alloc.alloc.alloc
    have hza := hq.ext xw
    have hzb := hr.ext xw
    clear hW
    refine (H1.out _ _ _ _ q _ hza HB1.out).mono ?_
    rintro e w1 ⟨rfl, x1⟩
    rw [thi_no hI, tlo_no hI, ter_no hI]
    (first | replace xw := Ext.trans xw x1 | replace xw := Ext.trans (Ext.alloc xw) x1 | replace xw := Ext.trans (Ext.drew xw) x1 | replace xw := Ext.trans (Ext.alloc (Ext.drew xw)) x1); (first | replace hB := hB.ext x1 | replace hB := (hB.alloc _).ext x1 | replace hB := hB.drew.ext x1 | replace hB := (hB.drew.alloc _).ext x1); (first | replace hR := hR.ext x1 | replace hR := (hR.alloc _).ext x1 | replace hR := hR.drew.ext x1 | replace hR := (hR.drew.alloc _).ext x1); (first | replace hS := hS.ext x1 | replace hS := (hS.alloc _).ext x1 | replace hS := hS.drew.ext x1 | replace hS := (hS.drew.alloc _).ext x1); (first | replace hzb := hzb.ext x1 | replace hzb := (hzb.alloc _).ext x1 | replace hzb := hzb.drew.ext x1 | replace hzb := (hzb.drew.alloc _).ext x1)
    have y1 := hS.kind.lt
    obtain ⟨V, hV⟩ : ∃ V, V = w1.alloc (.cells #[.int .i64 (0), .int .u64 (0)] 26) := ⟨_, rfl⟩
    have hP : Box2 V w1.heap.size (.int .i64 (0)) (.int .u64 (0)) 26 := by rw [hV]; exact Box2.new rfl
    have kB := hB.alloc (.cells #[.int .i64 (0), .int .u64 (0)] 26)
    replace hR := hR.named hV
    replace hS := hS.named hV
    replace hzb := hzb.named hV
    replace xw : Ext w V := by rw [hV]; exact Ext.alloc xw
    have kB_0 := kB.c0; have kB_1 := kB.c1
    go_wp2_with fail
    clear kB_0 kB_1
    clear kB hB
    rw [← hV]
    clear hV x1
    refine (H1.out _ _ _ _ r _ hzb HB2.out).mono ?_
    rintro e w2 ⟨rfl, x2⟩
    rw [thi_yes hrW, tlo_yes hrW, ter_yes hrW]
    (first | replace xw := Ext.trans xw x2 | replace xw := Ext.trans (Ext.alloc xw) x2 | replace xw := Ext.trans (Ext.drew xw) x2 | replace xw := Ext.trans (Ext.alloc (Ext.drew xw)) x2); (first | replace hP := hP.ext x2 | replace hP := (hP.alloc _).ext x2 | replace hP := hP.drew.ext x2 | replace hP := (hP.drew.alloc _).ext x2); (first | replace hR := hR.ext x2 | replace hR := (hR.alloc _).ext x2 | replace hR := hR.drew.ext x2 | replace hR := (hR.drew.alloc _).ext x2); (first | replace hS := hS.ext x2 | replace hS := (hS.alloc _).ext x2 | replace hS := hS.drew.ext x2 | replace hS := (hS.drew.alloc _).ext x2)
    have y2 := hS.kind.lt
    replace hR := hR.alloc (.cells #[.int .i64 (hi r), .int .u64 (lo r)] 26)
    replace hS := hS.alloc (.cells #[.int .i64 (hi r), .int .u64 (lo r)] 26)
    have hR_0 := hR.c0; have hR_1 := hR.c1; have hS_0 := hS.c0; have hS_1 := hS.c1
    have hR_2 := hR.f0; have hR_3 := hR.f1; have hS_2 := hS.f0; have hS_3 := hS.f1
    go_wp2_with fail
    refine bodyPost_ret (v := .tuple #[.agg #[.int .i64 0, .int .u64 0], .agg #[.int .i64 0, .int .u64 0], .int .i64 2]) (by simp [results, Try.results103, go_sem, hR_0, hR_1, hS_0, hS_1]) rfl (retQ_no hI ?_)
    exact Ext.set (Ext.set (Ext.set (Ext.set (Ext.alloc xw) (by omega)) (by omega)) (by omega)) (by omega)

theorem fmod_W {a b : Int} (hb : W128 b) (h0 : b ≠ 0) : W128 (a.fmod b) := by
  by_cases h : 0 < b
  · have h1 := Int.fmod_eq_emod_of_nonneg a (show 0 ≤ b by omega)
    have := Int.emod_nonneg a h0
    have := Int.emod_lt_of_pos a h
    unfold W128 at *; omega
  · obtain ⟨k1, k2, k3⟩ := tdm (a := a) h0
    by_cases hs : a.tmod b = 0 ∨ (a.tmod b < 0 ↔ b < 0)
    · rw [(floor_same h0 hs).2]; exact tmod_W hb h0
    · rw [(floor_less h0 (fun e => hs (Or.inl e)) (fun e => hs (Or.inr e))).2]
      unfold W128 at *; omega
theorem fdiv_bits {a b : Int} (ha : W128 a) (h0 : b ≠ 0) : Bits 129 (a.fdiv b) := by
  have e := tdiv_nat (a := a) (b := b)
  have h1 : a.natAbs / b.natAbs ≤ a.natAbs := Nat.div_le_self _ _
  by_cases hs : a.tmod b = 0 ∨ (a.tmod b < 0 ↔ b < 0)
  · rw [(floor_same h0 hs).1]; unfold Bits; unfold W128 at ha; omega
  · rw [(floor_less h0 (fun e => hs (Or.inl e)) (fun e => hs (Or.inr e))).1]; unfold Bits; unfold W128 at ha; omega

set_option maxRecDepth 100000 in
set_option maxHeartbeats 3200000 in
theorem zfloor (a b : Int) (w : World) (ha : W128 a) (hb : W128 b) (h0 : b ≠ 0) :
    Calls Try.prog 57 #[.agg #[.int .i64 (hi a), .int .u64 (lo a)], .agg #[.int .i64 (hi b), .int .u64 (lo b)]] w (RetQ w (a.fdiv b) (a.fmod b)) := by
  have H1 := Lib.hid ofw
  have H2 := Lib.hid sign_z
  have H3 := Lib.hid div_z
  have H4 := Lib.hid ztold3
  have hrW := fmod_W (a := a) hb h0
  have hbq := Lib.hid ((fdiv_bits (b := b) ha h0).mono (show 129 ≤ 1000 by omega))
  have fb : Fit b := hb.bits.fit (by omega)
  have g0 : (cmpI b 0 == 0) = false := by
    simp only [beq_eq_false_iff_ne, ne_eq]; unfold cmpI; split <;> (try split) <;> omega
  go_enter Try.func57, Try.ntmps57
  go_wp2_with fail
  obtain ⟨W, hW⟩ : ∃ W, W = (((w.alloc (.cells #[.int .i64 (hi a), .int .u64 (lo a)] 26)).alloc (.cells #[.int .i64 (hi b), .int .u64 (lo b)] 26)).alloc (.cells #[.int .i64 0, .int .u64 0] 26)).alloc (.cells #[.int .i64 0, .int .u64 0] 26) := ⟨_, rfl⟩
  rw [← hW]
  have hA : Box2 W w.heap.size (.int .i64 (hi a)) (.int .u64 (lo a)) 26 := by rw [hW]; exact (((Box2.new rfl).alloc _).alloc _).alloc _
  have hB : Box2 W (w.heap.size + 1) (.int .i64 (hi b)) (.int .u64 (lo b)) 26 := by rw [hW]; exact ((Box2.new (by simp)).alloc _).alloc _
  have hR : Box2 W (w.heap.size + 1 + 1) (.int .i64 0) (.int .u64 0) 26 := by rw [hW]; exact (Box2.new (by simp)).alloc _
  have hS : Box2 W (w.heap.size + 1 + 1 + 1) (.int .i64 0) (.int .u64 0) 26 := by rw [hW]; exact Box2.new (by simp)
  have xw : Ext w W := by rw [hW]; exact (Ext.refl w).alloc.alloc.alloc.alloc
  clear hW
  go_cut [7, 8] (fun s7 s8 wx => ∃ (k7 k8 : Nat) (n7 : Bool) (a7 : Option Addr) (l7 c7 : Nat) (n8 : Bool) (a8 : Option Addr) (l8 c8 : Nat), s7 = .pointer (some ⟨k7, 0, none⟩) ∧ s8 = .pointer (some ⟨k8, 0, none⟩) ∧
    Box2 wx k7 (.bool n7) (.slice a7 l7 c7) 37 ∧ Box2 wx k8 (.bool n8) (.slice a8 l8 c8) 37 ∧ IsZ wx n7 (.slice a7 l7 c7) a ∧ IsZ wx n8 (.slice a8 l8 c8) b ∧
    Box2 wx (w.heap.size + 1 + 1) (.int .i64 0) (.int .u64 0) 26 ∧ Box2 wx (w.heap.size + 1 + 1 + 1) (.int .i64 0) (.int .u64 0) 26 ∧ Ext w wx)
  case first =>
    refine wp_region_noPanic ?_
    refine wp_region_held_drew (S := fun w' => Ext W w') (by kernel_rfl) (Ext.refl W).drew (fun hHeld => ?_)
    have c0 := fun w' (h : Ext W w') => (hA.ext h).c0
    have c1 := fun w' (h : Ext W w') => (hA.ext h).c1
    have c2 := fun w' (h : Ext W w') => (hB.ext h).c0
    have c3 := fun w' (h : Ext W w') => (hB.ext h).c1
    refine wpAnyH_take (i := 0) (v := .agg #[.int .i64 (hi a), .int .u64 (lo a)]) rfl (by kernel_rfl) (by kernel_rfl) (by kernel_rfl) (fun _ _ _ h => h) (Or.inl ⟨by kernel_rfl, fun w' h => (by go_simp)⟩) hHeld ?_
    refine wpAnyH_take (i := 2) (v := .agg #[.int .i64 (hi b), .int .u64 (lo b)]) rfl (by kernel_rfl) (by kernel_rfl) (by kernel_rfl) (fun _ _ _ h => h) (Or.inl ⟨by kernel_rfl, fun w' h => (by go_simp)⟩) hHeld ?_
    refine region2 (N := 8) (f0 := [0, 2]) (l := [(1, false), (3, false)]) (T := [6, 7]) (iA := 4) (dA := 7) (iB := 5) (dB := 8) (oA := .cells #[.bool false, .slice none 0 0] 37) (oB := .cells #[.bool false, .slice none 0 0] 37) (fun _ _ _ _ _ h => h) (by kernel_rfl) (by kernel_rfl) rfl (by kernel_rfl) (by kernel_rfl)
      (fun K a w h => wpOp_of rfl fun K' hK => (by go_simp; exact hK _ _ h)) (fun K a w h => wpOp_of rfl fun K' hK => (by go_simp; exact hK _ _ h)) (by decide) (by simp [Act.put]) (by simp [Act.put]) (fun _ _ h x => h.trans x) hHeld ?_
    intro a1 v1 h1 y1; obtain ⟨s7, s8, rfl⟩ := away2 h1; refine wpOp_of rfl fun K' hK => ?_; go_simp
    refine (H1.out a _ ha).mono ?_
    rintro e w1 ⟨n1, a1, l1, c1, rfl, hz1, hb1⟩
    refine hK _ _ ⟨⟨hb1, rfl, slots2 rfl rfl⟩, ?_⟩; clear hK K'
    intro a1 v2 h1 y2; obtain ⟨s7, s8, rfl⟩ := away2 h1; refine wpOp_of rfl fun K' hK => ?_; go_simp
    refine (H1.out b _ hb).mono ?_
    rintro e w2 ⟨n2, a2, l2, c2, rfl, hz2, hb2⟩
    refine hK _ _ ⟨⟨hb2, rfl, slots2 rfl rfl⟩, ?_⟩; clear hK K'
    have x4 : Ext W w2 := Ext.trans (Ext.trans (Ext.trans (Ext.trans (Ext.refl W).drew y1) hb1) y2) hb2
    intro a' w' h y
    obtain ⟨s6, s7, rfl⟩ := away2 h
    rintro k k' ⟨hk1, hk2, hk3⟩ ⟨hl1, hl2, hl3⟩ hne hS'
    have y4 : Ext w2 w' := y
    simp at hk2 hl2
    subst hk2 hl2
    have hq' := hz1.ext (Ext.trans (Ext.trans y2 hb2) y4)
    have hr' := hz2.ext y4
    have hkb : Box2 w' k (.bool false) (.slice none 0 0) 37 := hk3
    have hlb : Box2 w' k' (.bool false) (.slice none 0 0) 37 := hl3
    have k0 := hkb.c0
    have k1 := hkb.c1
    have k2 := hkb.f0
    have k3 := hkb.f1
    have hBq := hkb.set (.bool n1) (.slice a1 l1 c1)
    have hBr := hlb.other2 (Ne.symm hne) (.bool n1) (.slice a1 l1 c1)
    have hSq : Ext W ((w'.setCell ⟨k, 0, none⟩ (.bool n1)).setCell ⟨k, 1, none⟩ (.slice a1 l1 c1)) := (hS'.set hk1).set hk1
    have hqq := hq'.set2 hkb.kind (by decide) (.bool n1) (.slice a1 l1 c1)
    have hrq := hr'.set2 hkb.kind (by decide) (.bool n1) (.slice a1 l1 c1)
    have l0 := hBr.c0
    have l1 := hBr.c1
    have l2 := hBr.f0
    have l3 := hBr.f1
    refine wpOp_of rfl fun K' hK => ?_
    go_simp
    refine hK _ _ ⟨hSq, ?_⟩
    clear hK K'
    refine wpOp_of rfl fun K' hK => ?_
    go_simp
    refine hK _ _ ⟨(hSq.set hl1).set hl1, ?_⟩
    clear hK K'
    refine NoPanic.normal ?_
    go_wp2_with fail
    go_meet
    exact ⟨k, k', n1, a1, _, c1, n2, a2, _, c2, rfl, rfl, hBq.other2 hne _ _, hBr.set _ _, hqq.set2 hBr.kind (by decide) _ _, hrq.set2 hBr.kind (by decide) _ _, hR.ext ((hSq.set hl1).set hl1), hS.ext ((hSq.set hl1).set hl1), xw.trans ((hSq.set hl1).set hl1)⟩
  case rest =>
    obtain ⟨k7, k8, n7, a7, l7, c7, n8, a8, l8, c8, rfl, rfl, hX, hY, hx, hy, hR, hS, xw⟩ := hcut
    clear hA hB
    have hX_0 := hX.c0; have hX_1 := hX.c1; have hY_0 := hY.c0; have hY_1 := hY.c1
    go_wp2_with fail
    refine (H2.out _ _ _ _ b _ hy fb).mono ?_
    rintro e w3 ⟨rfl, x3⟩
    replace x3 : Ext _ w3 := x3
    clear hX_0 hX_1 hY_0 hY_1
    (first | replace xw := Ext.trans xw x3 | replace xw := Ext.trans (Ext.alloc xw) x3 | replace xw := Ext.trans (Ext.drew xw) x3 | replace xw := Ext.trans (Ext.alloc (Ext.drew xw)) x3); (first | replace hX := hX.ext x3 | replace hX := (hX.alloc _).ext x3 | replace hX := hX.drew.ext x3 | replace hX := (hX.drew.alloc _).ext x3); (first | replace hY := hY.ext x3 | replace hY := (hY.alloc _).ext x3 | replace hY := hY.drew.ext x3 | replace hY := (hY.drew.alloc _).ext x3); (first | replace hR := hR.ext x3 | replace hR := (hR.alloc _).ext x3 | replace hR := hR.drew.ext x3 | replace hR := (hR.drew.alloc _).ext x3); (first | replace hS := hS.ext x3 | replace hS := (hS.alloc _).ext x3 | replace hS := hS.drew.ext x3 | replace hS := (hS.drew.alloc _).ext x3); (first | replace hx := hx.ext x3 | replace hx := (hx.alloc _).ext x3 | replace hx := hx.drew.ext x3 | replace hx := (hx.drew.alloc _).ext x3); (first | replace hy := hy.ext x3 | replace hy := (hy.alloc _).ext x3 | replace hy := hy.drew.ext x3 | replace hy := (hy.drew.alloc _).ext x3)
    have hX_0 := hX.c0; have hX_1 := hX.c1; have hY_0 := hY.c0; have hY_1 := hY.c1
    go_wp2_with fail
    refine (H3.out _ _ _ _ _ _ _ _ a b _ hx hy 128 (by omega) ha.bits hb.bits h0).mono ?_
    rintro e w4 ⟨nq, aq, lq, cq, nr, ar, lr, cr, rfl, hq, hr, x4⟩
    replace x4 : Ext _ w4 := x4
    (first | replace xw := Ext.trans xw x4 | replace xw := Ext.trans (Ext.alloc xw) x4 | replace xw := Ext.trans (Ext.drew xw) x4 | replace xw := Ext.trans (Ext.alloc (Ext.drew xw)) x4); (first | replace hR := hR.ext x4 | replace hR := (hR.alloc _).ext x4 | replace hR := hR.drew.ext x4 | replace hR := (hR.drew.alloc _).ext x4); (first | replace hS := hS.ext x4 | replace hS := (hS.alloc _).ext x4 | replace hS := hS.drew.ext x4 | replace hS := (hS.drew.alloc _).ext x4)
    obtain ⟨V, hV⟩ : ∃ V, V = (w4.alloc (.cells #[.bool nq, .slice aq lq cq] 37)).alloc (.cells #[.bool nr, .slice ar lr cr] 37) := ⟨_, rfl⟩
    have hP : Box2 ((w4.alloc (.cells #[.bool nq, .slice aq lq cq] 37)).alloc (.cells #[.bool nr, .slice ar lr cr] 37)) w4.heap.size (.bool nq) (.slice aq lq cq) 37 := (Box2.new rfl).alloc _
    have hQ : Box2 ((w4.alloc (.cells #[.bool nq, .slice aq lq cq] 37)).alloc (.cells #[.bool nr, .slice ar lr cr] 37)) (w4.heap.size + 1) (.bool nr) (.slice ar lr cr) 37 := Box2.new (by simp)
    replace hR := hR.named2 hV
    replace hS := hS.named2 hV
    replace hq := hq.named2 hV
    replace hr := hr.named2 hV
    replace xw : Ext w V := by rw [hV]; exact Ext.alloc (Ext.alloc xw)
    have hP_0 := hP.c0; have hP_1 := hP.c1; have hQ_0 := hQ.c0; have hQ_1 := hQ.c1
    go_wp2_with fail
    rw [← hV]
    clear hV hP hQ hP_0 hP_1 hQ_0 hQ_1
    refine (H4.out _ _ _ _ _ _ _ _ (a.fdiv b) (a.fmod b) _ hq hr hbq.out (hrW.bits.mono (by omega)) hrW).mono ?_
    rintro e w5 ⟨rfl, x5⟩
    (first | replace xw := Ext.trans xw x5 | replace xw := Ext.trans (Ext.alloc xw) x5 | replace xw := Ext.trans (Ext.drew xw) x5 | replace xw := Ext.trans (Ext.alloc (Ext.drew xw)) x5); (first | replace hR := hR.ext x5 | replace hR := (hR.alloc _).ext x5 | replace hR := hR.drew.ext x5 | replace hR := (hR.drew.alloc _).ext x5); (first | replace hS := hS.ext x5 | replace hS := (hS.alloc _).ext x5 | replace hS := hS.drew.ext x5 | replace hS := (hS.drew.alloc _).ext x5)
    have hR_0 := hR.c0; have hR_1 := hR.c1; have hS_0 := hS.c0; have hS_1 := hS.c1
    have hR_2 := hR.f0; have hR_3 := hR.f1; have hS_2 := hS.f0; have hS_3 := hS.f1
    go_wp2_with fail

    refine bodyPost_ret (v := .tuple #[.agg #[.int .i64 (thi (a.fdiv b)), .int .u64 (tlo (a.fdiv b))], .agg #[.int .i64 (qh (a.fdiv b) (a.fmod b)), .int .u64 (ql (a.fdiv b) (a.fmod b))], .int .i64 (ter (a.fdiv b))]) (by simp [results, Try.results57, go_sem, hR_0, hR_1, hS_0, hS_1]) rfl ⟨rfl, ?_⟩
    exact Ext.set (Ext.set (Ext.set (Ext.set xw (by omega)) (by omega)) (by omega)) (by omega)
end Go.Proofs.Ytmkddcmfofabbaa

/-
  What every right program answers: alive of layer 3.
-/
namespace Go.Proofs.Ytmkddcmfofabbaa
open Go Go.RowKit

theorem s3c {w : World} {k k' k'' : Nat} {u v u' v' u'' v'' : Value} {t t' t'' : TypeId} (h : Box2 w k u v t) (h' : Box2 w k' u' v' t') (h'' : Box2 w k'' u'' v'' t'') :
    w.cell? ⟨k, 0, none⟩ = some u ∧ w.cell? ⟨k, 1, none⟩ = some v ∧ w.cell? ⟨k', 0, none⟩ = some u' ∧ w.cell? ⟨k', 1, none⟩ = some v' ∧ w.cell? ⟨k'', 0, none⟩ = some u'' ∧ w.cell? ⟨k'', 1, none⟩ = some v'' := ⟨h.c0, h.c1, h'.c0, h'.c1, h''.c0, h''.c1⟩
theorem liv_floor (w : World) : Calls Try.prog 56 #[.agg #[.int .i64 (hi (-7)), .int .u64 (lo (-7))], .agg #[.int .i64 (hi 2), .int .u64 (lo 2)]] w
    (fun e w' => e = .returned (.tuple #[.agg #[.int .i64 (hi (-4)), .int .u64 (lo (-4))], .agg #[.int .i64 (hi 1), .int .u64 (lo 1)], .int .i64 0]) ∧ Ext w w') := by
  have h := floor_small (-7) 2 w (by unfold W128; omega) (by omega) (by unfold I64; omega)
  have hW : W128 (-4) := by unfold W128; omega
  unfold RetQ at h
  rw [show (-7 : Int).fdiv 2 = -4 from by decide, show (-7 : Int).fmod 2 = 1 from by decide, thi_yes hW, tlo_yes hW, ter_yes hW, show qh (-4) 1 = hi 1 from if_pos hW, show ql (-4) 1 = lo 1 from if_pos hW] at h
  exact h
theorem liv_gcd (w : World) : Calls Try.prog 61 #[.agg #[.int .i64 (hi (-12)), .int .u64 (lo (-12))], .agg #[.int .i64 (hi 18), .int .u64 (lo 18)]] w
    (fun e w' => e = .returned (.tuple #[.agg #[.int .i64 (hi 6), .int .u64 (lo 6)], .int .i64 0]) ∧ Ext w w') := by
  have h := dGcd 18 (-12) 18 w (by unfold W128; omega) (by unfold W128; omega) (by decide) (by decide) (by decide) (over_to 18 (by decide))
  have hW : W128 6 := by unfold W128; omega
  unfold RetT at h
  rw [show ((Nat.gcd (-12 : Int).natAbs (18 : Int).natAbs : Nat) : Int) = 6 from by decide, thi_yes hW, tlo_yes hW, ter_yes hW] at h
  exact h

set_option maxRecDepth 100000 in
set_option maxHeartbeats 1600000 in
theorem alive3 (w : World) : Calls Try.prog 58 #[] w (fun e w' => e = .returned (.bool true) ∧ Ext w w') := by
  have H2 := Lib.hid liv_of
  have H3 := Lib.hid liv_floor
  have H4 := Lib.hid liv_gcd
  have i1 : I64 (-7) := by unfold I64; omega
  have i2 : I64 2 := by unfold I64; omega
  have i3 : I64 (-12) := by unfold I64; omega
  have i4 : I64 18 := by unfold I64; omega
  have i5 : I64 (-4) := by unfold I64; omega
  have i6 : I64 1 := by unfold I64; omega
  have i7 : I64 6 := by unfold I64; omega
  go_enter Try.func58, Try.ntmps58
  go_wp2_with fail
  refine (H2.out _ _ i1).mono ?_
  rintro e w1 ⟨rfl, x1⟩
  go_wp2_with fail
  refine (H2.out _ _ i2).mono ?_
  rintro e w2 ⟨rfl, x2⟩
  go_wp2_with fail
  refine (H3.out _).mono ?_
  rintro e w3 ⟨rfl, x3⟩
  have xw := Ext.trans (Ext.trans x1 x2) x3
  have hA : Box2 ((w3.alloc (.cells #[.int .i64 (hi (-4)), .int .u64 (lo (-4))] 26)).alloc (.cells #[.int .i64 (hi 1), .int .u64 (lo 1)] 26)) w3.heap.size (.int .i64 (hi (-4))) (.int .u64 (lo (-4))) 26 := (Box2.new rfl).alloc _
  have hB : Box2 ((w3.alloc (.cells #[.int .i64 (hi (-4)), .int .u64 (lo (-4))] 26)).alloc (.cells #[.int .i64 (hi 1), .int .u64 (lo 1)] 26)) (w3.heap.size + 1) (.int .i64 (hi 1)) (.int .u64 (lo 1)) 26 := Box2.new (by simp)
  replace xw := Ext.alloc (o := .cells #[.int .i64 (hi 1), .int .u64 (lo 1)] 26) (Ext.alloc (o := .cells #[.int .i64 (hi (-4)), .int .u64 (lo (-4))] 26) xw)
  go_wp2_with fail
  refine (H2.out _ _ i3).mono ?_
  rintro e w4 ⟨rfl, x4⟩
  (first | replace xw := Ext.trans xw x4 | replace xw := Ext.trans (Ext.alloc xw) x4 | replace xw := Ext.trans (Ext.drew xw) x4 | replace xw := Ext.trans (Ext.alloc (Ext.drew xw)) x4); (first | replace hA := hA.ext x4 | replace hA := (hA.alloc _).ext x4 | replace hA := hA.drew.ext x4 | replace hA := (hA.drew.alloc _).ext x4); (first | replace hB := hB.ext x4 | replace hB := (hB.alloc _).ext x4 | replace hB := hB.drew.ext x4 | replace hB := (hB.drew.alloc _).ext x4)
  go_wp2_with fail
  refine (H2.out _ _ i4).mono ?_
  rintro e w5 ⟨rfl, x5⟩
  (first | replace xw := Ext.trans xw x5 | replace xw := Ext.trans (Ext.alloc xw) x5 | replace xw := Ext.trans (Ext.drew xw) x5 | replace xw := Ext.trans (Ext.alloc (Ext.drew xw)) x5); (first | replace hA := hA.ext x5 | replace hA := (hA.alloc _).ext x5 | replace hA := hA.drew.ext x5 | replace hA := (hA.drew.alloc _).ext x5); (first | replace hB := hB.ext x5 | replace hB := (hB.alloc _).ext x5 | replace hB := hB.drew.ext x5 | replace hB := (hB.drew.alloc _).ext x5)
  go_wp2_with fail
  refine (H4.out _).mono ?_
  rintro e w6 ⟨rfl, x6⟩
  (first | replace xw := Ext.trans xw x6 | replace xw := Ext.trans (Ext.alloc xw) x6 | replace xw := Ext.trans (Ext.drew xw) x6 | replace xw := Ext.trans (Ext.alloc (Ext.drew xw)) x6); (first | replace hA := hA.ext x6 | replace hA := (hA.alloc _).ext x6 | replace hA := hA.drew.ext x6 | replace hA := (hA.drew.alloc _).ext x6); (first | replace hB := hB.ext x6 | replace hB := (hB.alloc _).ext x6 | replace hB := hB.drew.ext x6 | replace hB := (hB.drew.alloc _).ext x6)
  go_wp2_with fail
  obtain ⟨V, hV⟩ : ∃ V, V = w6.alloc (.cells #[.int .i64 (hi 6), .int .u64 (lo 6)] 26) := ⟨_, rfl⟩
  have hC : Box2 V w6.heap.size (.int .i64 (hi 6)) (.int .u64 (lo 6)) 26 := by rw [hV]; exact Box2.new rfl
  replace hA := hA.named hV
  replace hB := hB.named hV
  replace xw : Ext w V := by rw [hV]; exact Ext.alloc xw
  rw [← hV]
  clear hV x1 x2 x3 x4 x5 x6
  go_region_held3 (fun w' => w'.cell? ⟨w3.heap.size, 0, none⟩ = some (.int .i64 (hi (-4))) ∧ w'.cell? ⟨w3.heap.size, 1, none⟩ = some (.int .u64 (lo (-4))) ∧ w'.cell? ⟨w3.heap.size + 1, 0, none⟩ = some (.int .i64 (hi 1)) ∧ w'.cell? ⟨w3.heap.size + 1, 1, none⟩ = some (.int .u64 (lo 1)) ∧ w'.cell? ⟨w6.heap.size, 0, none⟩ = some (.int .i64 (hi 6)) ∧ w'.cell? ⟨w6.heap.size, 1, none⟩ = some (.int .u64 (lo 6)))
    (first
      | exact s3c (hA.drew.ext x) (hB.drew.ext x) (hC.drew.ext x)
      | exact s3c hA.drew hB.drew hC.drew)
    (first
      | (have := x2; go_at_call 32; refine (H2.out 6 _ i7).mono ?_; rintro e w9 ⟨rfl, x3⟩; replace x := Ext.trans x x3)
      | (have := x1; go_at_call 32; refine (H2.out 1 _ i6).mono ?_; rintro e w8 ⟨rfl, x2⟩; replace x := Ext.trans x x2)
      | (go_at_call 32; refine (H2.out (-4) _ i5).mono ?_; rintro e w7 ⟨rfl, x1⟩; have x := x1))
  go_wp2_with fail
  go_ret
  exact ⟨rfl, Ext.trans xw.drew x⟩
end Go.Proofs.Ytmkddcmfofabbaa

/-
  The law DivideBys, walked.
-/
namespace Go.Proofs.Ytmkddcmfofabbaa
open Go Go.RowKit

theorem zfloor_by (a n : Int) (w : World) (ha : W128 a) (hn : 0 < n) (hI : I64 n) :
    Calls Try.prog 57 #[.agg #[.int .i64 (hi a), .int .u64 (lo a)], .agg #[.int .i64 (hi n), .int .u64 (lo n)]] w
      (fun e w' => e = .returned (.tuple #[.agg #[.int .i64 (hi (a.fdiv n)), .int .u64 (lo (a.fdiv n))], .agg #[.int .i64 (hi (a.fmod n)), .int .u64 (lo (a.fmod n))], .int .i64 0]) ∧ Ext w w') := by
  have h := zfloor a n w ha hI.w (by omega)
  obtain ⟨hq, r0, r1⟩ := by_math ha hn
  unfold RetQ at h
  rwa [thi_yes hq, tlo_yes hq, ter_yes hq, show qh (a.fdiv n) (a.fmod n) = hi (a.fmod n) from if_pos hq, show ql (a.fdiv n) (a.fmod n) = lo (a.fmod n) from if_pos hq] at h
set_option maxRecDepth 100000 in
set_option maxHeartbeats 1600000 in
theorem dby_no (a n : Int) (w : World) (hn : n ≤ 0) :
    Calls Try.prog 63 #[.agg #[.int .i64 (hi a), .int .u64 (lo a)], .int .i64 n] w (fun e w' => e = .returned (.tuple #[.agg #[.int .i64 0, .int .u64 0], .int .i64 0, .int .i64 1]) ∧ Ext w w') := by
  go_enter Try.func63, Try.ntmps63
  go_wp2_with fail
  refine bodyPost_ret (v := .tuple #[.agg #[.int .i64 0, .int .u64 0], .int .i64 0, .int .i64 1]) (by simp [results, Try.results63, go_sem]) rfl ⟨rfl, ?_⟩
  exact (by repeat (first | exact Ext.refl _ | refine Ext.alloc ?_ | refine Ext.drew ?_ | refine Ext.drewN ?_ | refine Ext.set ?_ (Ext.size ?_) | refine Ext.set ?_ (Ext.size1 ?_) | refine Ext.set ?_ (Ext.size2 ?_) | refine Ext.trans ?_ (by assumption)))
theorem s3d {w : World} {k k' k'' : Nat} {u v u' v' u'' v'' : Value} {t t' t'' : TypeId} (h : Box2 w k u v t) (h' : Box2 w k' u' v' t') (h'' : Box2 w k'' u'' v'' t'') :
    w.cell? ⟨k, 0, none⟩ = some u ∧ w.cell? ⟨k, 1, none⟩ = some v ∧ w.cell? ⟨k', 0, none⟩ = some u' ∧ w.cell? ⟨k', 1, none⟩ = some v' ∧ w.cell? ⟨k'', 0, none⟩ = some u'' ∧ w.cell? ⟨k'', 1, none⟩ = some v'' := ⟨h.c0, h.c1, h'.c0, h'.c1, h''.c0, h''.c1⟩
set_option maxRecDepth 100000 in
set_option maxHeartbeats 3200000 in
theorem law_bys (a n : Int) (w : World) (ha : W128 a) (hI : I64 n) :
    Calls Try.prog 13 #[.agg #[.int .i64 (hi a), .int .u64 (lo a)], .int .i64 n] w (fun e w' => e = .returned (.bool true) ∧ Ext w w') := by
  have H2 := Lib.hid dby_no
  have H3 := Lib.hid alive3
  by_cases hn : 0 < n
  · have H1 := Lib.hid dby
    have H4 := Lib.hid of_pure
    have H5 := Lib.hid zfloor_by
    have H6 := Lib.hid liv_of
    obtain ⟨hq, r0, r1⟩ := by_math ha hn
    have hIr : I64 (a.fmod n) := by unfold I64 at *; omega
    obtain ⟨n0, n1⟩ := hI
    have hn' : ¬ n < 1 := by omega
    go_enter Try.func13, Try.ntmps13
    go_wp2_with fail
    have hA : Box2 (w.alloc (.cells #[.int .i64 (hi a), .int .u64 (lo a)] 26)) w.heap.size (.int .i64 (hi a)) (.int .u64 (lo a)) 26 := Box2.new rfl
    have xw : Ext w (w.alloc (.cells #[.int .i64 (hi a), .int .u64 (lo a)] 26)) := (Ext.refl w).alloc
    refine (H1.out _ _ _ ha hn ⟨n0, n1⟩).mono ?_
    rintro e w1 ⟨rfl, x1⟩
    (first | replace xw := Ext.trans xw x1 | replace xw := Ext.trans (Ext.alloc xw) x1 | replace xw := Ext.trans (Ext.drew xw) x1 | replace xw := Ext.trans (Ext.alloc (Ext.drew xw)) x1); (first | replace hA := hA.ext x1 | replace hA := (hA.alloc _).ext x1 | replace hA := hA.drew.ext x1 | replace hA := (hA.drew.alloc _).ext x1)
    obtain ⟨W, hW⟩ : ∃ W, W = w1.alloc (.cells #[.int .i64 (hi (a.fdiv n)), .int .u64 (lo (a.fdiv n))] 26) := ⟨_, rfl⟩
    have hB : Box2 W w1.heap.size (.int .i64 (hi (a.fdiv n))) (.int .u64 (lo (a.fdiv n))) 26 := by rw [hW]; exact Box2.new rfl
    replace hA := hA.named hW
    replace xw : Ext w W := by rw [hW]; exact Ext.alloc xw
    go_wp2_with fail
    rw [← hW]
    clear hW x1
    go_cut [8, 9] (fun s8 s9 wx => ∃ (k8 k9 : Nat), s8 = .pointer (some ⟨k8, 0, none⟩) ∧ s9 = .pointer (some ⟨k9, 0, none⟩) ∧ Box2 wx k8 (.int .i64 (hi (a.fdiv n))) (.int .u64 (lo (a.fdiv n))) 26 ∧
      Box2 wx k9 (.int .i64 (hi (a.fmod n))) (.int .u64 (lo (a.fmod n))) 26 ∧ Box2 wx w1.heap.size (.int .i64 (hi (a.fdiv n))) (.int .u64 (lo (a.fdiv n))) 26 ∧ Ext w wx)
    case first =>
      refine wp_region_noPanic ?_
      refine wp_region_held_drew (S := fun w' => Ext W w') (by kernel_rfl) (Ext.refl W).drew (fun hHeld => ?_)
      have c0 := fun w' (h : Ext W w') => (hA.ext h).c0
      have c1 := fun w' (h : Ext W w') => (hA.ext h).c1
      refine wpAnyH_take (i := 0) (v := .agg #[.int .i64 (hi a), .int .u64 (lo a)]) rfl (by kernel_rfl) (by kernel_rfl) (by kernel_rfl) (fun _ _ _ h => h) (Or.inl ⟨by kernel_rfl, fun w' h => (by go_simp)⟩) hHeld ?_
      refine wpAnyH_take (i := 1) (v := .int .i64 n) rfl (by kernel_rfl) (by kernel_rfl) (by kernel_rfl) (fun _ _ _ h => h) (Or.inl ⟨by kernel_rfl, fun w' h => (by go_simp)⟩) hHeld ?_
      refine region2 (N := 13) (f0 := [0, 1]) (l := [(2, false), (3, false), (4, true), (5, true), (6, true), (7, true)]) (T := [10, 11, 12]) (iA := 8) (dA := 8) (iB := 9) (dB := 9) (oA := .cells #[.int .i64 0, .int .u64 0] 26) (oB := .cells #[.int .i64 0, .int .u64 0] 26) (fun _ _ _ _ _ h => h) (by kernel_rfl) (by kernel_rfl) rfl (by kernel_rfl) (by kernel_rfl)
        (fun K a w h => wpOp_of rfl fun K' hK => (by go_simp; exact hK _ _ h)) (fun K a w h => wpOp_of rfl fun K' hK => (by go_simp; exact hK _ _ h)) (by decide) (by simp [Act.put]) (by simp [Act.put]) (fun _ _ h x => h.trans x) hHeld ?_
      intro a1 v1 h1 y1; obtain ⟨s8, s9, rfl⟩ := away2 h1; refine wpOp_of rfl fun K' hK => ?_; go_simp
      refine (H4.out n _ n0 n1).mono ?_
      rintro e w2 ⟨rfl, hb1⟩
      refine hK _ _ ⟨⟨hb1, rfl, slots2 rfl rfl⟩, ?_⟩; clear hK K'
      intro a1 v2 h1 y2; obtain ⟨s8, s9, rfl⟩ := away2 h1; refine wpOp_of rfl fun K' hK => ?_; go_simp
      refine (H5.out a n _ ha hn ⟨n0, n1⟩).mono ?_
      rintro e w3 ⟨rfl, hb2⟩
      refine hK _ _ ⟨⟨hb2, rfl, slots2 rfl rfl⟩, ?_⟩; clear hK K'
      have x4 : Ext W w3 := Ext.trans (Ext.trans (Ext.trans (Ext.trans (Ext.refl W).drew y1) hb1) y2) hb2
      refine ⟨_, .tuple #[.agg #[.int .i64 (hi (a.fdiv n)), .int .u64 (lo (a.fdiv n))], .agg #[.int .i64 (hi (a.fmod n)), .int .u64 (lo (a.fmod n))], .int .i64 0], rfl, Or.inl ⟨by rfl, fun w' h => (by go_simp)⟩, by simp, ?_⟩
      refine ⟨_, .agg #[.int .i64 (hi (a.fdiv n)), .int .u64 (lo (a.fdiv n))], rfl, Or.inl ⟨by rfl, fun w' h => (by go_simp)⟩, by simp, ?_⟩
      refine ⟨_, .agg #[.int .i64 (hi (a.fmod n)), .int .u64 (lo (a.fmod n))], rfl, Or.inl ⟨by rfl, fun w' h => (by go_simp)⟩, by simp, ?_⟩
      refine ⟨_, .int .i64 0, rfl, Or.inl ⟨by rfl, fun w' h => (by go_simp)⟩, by simp, ?_⟩
      intro a' w' h y
      obtain ⟨s6, s7, rfl⟩ := away2 h
      rintro k k' ⟨hk1, hk2, hk3⟩ ⟨hl1, hl2, hl3⟩ hne hS'
      simp [Act.put] at hk2 hl2
      subst hk2 hl2
      have hkb : Box2 w' k (.int .i64 0) (.int .u64 0) 26 := hk3
      have hlb : Box2 w' k' (.int .i64 0) (.int .u64 0) 26 := hl3
      have k0 := hkb.c0
      have k1 := hkb.c1
      have k2 := hkb.f0
      have k3 := hkb.f1
      have hBq := hkb.set (.int .i64 (hi (a.fdiv n))) (.int .u64 (lo (a.fdiv n)))
      have hBr := hlb.other2 (Ne.symm hne) (.int .i64 (hi (a.fdiv n))) (.int .u64 (lo (a.fdiv n)))
      have hSq : Ext W ((w'.setCell ⟨k, 0, none⟩ (.int .i64 (hi (a.fdiv n)))).setCell ⟨k, 1, none⟩ (.int .u64 (lo (a.fdiv n)))) := (hS'.set hk1).set hk1
      have l0 := hBr.c0
      have l1 := hBr.c1
      have l2 := hBr.f0
      have l3 := hBr.f1
      refine wpOp_of rfl fun K' hK => ?_
      go_simp
      refine hK _ _ ⟨hSq, ?_⟩
      clear hK K'
      refine wpOp_of rfl fun K' hK => ?_
      go_simp
      refine hK _ _ ⟨(hSq.set hl1).set hl1, ?_⟩
      clear hK K'
      refine wpOp_of rfl fun K' hK => ?_
      go_simp
      refine hK _ _ ⟨(hSq.set hl1).set hl1, ?_⟩
      clear hK K'
      refine NoPanic.normal ?_
      go_wp2_with fail
      go_meet
      exact ⟨k, k', rfl, rfl, hBq.other2 hne _ _, hBr.set _ _, hB.ext ((hSq.set hl1).set hl1), xw.trans ((hSq.set hl1).set hl1)⟩
    case rest =>
      obtain ⟨k8, k9, rfl, rfl, hX, hY, hZ, xw⟩ := hcut
      clear hA hB
      go_wp2_with fail
      go_region_held3 (fun w' => w'.cell? ⟨k8, 0, none⟩ = some (.int .i64 (hi (a.fdiv n))) ∧ w'.cell? ⟨k8, 1, none⟩ = some (.int .u64 (lo (a.fdiv n))) ∧ w'.cell? ⟨k9, 0, none⟩ = some (.int .i64 (hi (a.fmod n))) ∧ w'.cell? ⟨k9, 1, none⟩ = some (.int .u64 (lo (a.fmod n))) ∧ w'.cell? ⟨w1.heap.size, 0, none⟩ = some (.int .i64 (hi (a.fdiv n))) ∧ w'.cell? ⟨w1.heap.size, 1, none⟩ = some (.int .u64 (lo (a.fdiv n))))
        (first
          | exact s3d (hX.drew.ext x) (hY.drew.ext x) (hZ.drew.ext x)
          | exact s3d hX.drew hY.drew hZ.drew)
        (first
          | (go_at_call 58; refine (H3.out _).mono ?_; rintro e w7 ⟨rfl, x1⟩; have x := x1)
          | (go_at_call 32; refine (H6.out (a.fmod n) _ hIr).mono ?_; rintro e w8 ⟨rfl, x2⟩; replace x := Ext.trans x x2))
      go_wp2_with fail
      go_ret
      exact ⟨rfl, Ext.trans xw.drew x⟩
  · have hn' : n ≤ 0 := by omega
    have hn1 : n < 1 := by omega
    clear hn
    go_enter Try.func13, Try.ntmps13
    go_wp2_with fail
    refine (H2.out _ _ _ hn').mono ?_
    rintro e w1 ⟨rfl, x1⟩
    have xw := Ext.trans (Ext.refl w).alloc x1
    have hB : Box2 (w1.alloc (.cells #[.int .i64 0, .int .u64 0] 26)) w1.heap.size (.int .i64 0) (.int .u64 0) 26 := Box2.new rfl
    go_wp2_with fail
    refine (H3.out _).mono ?_
    rintro e w2 ⟨rfl, x2⟩
    (first | replace xw := Ext.trans xw x2 | replace xw := Ext.trans (Ext.alloc xw) x2 | replace xw := Ext.trans (Ext.drew xw) x2 | replace xw := Ext.trans (Ext.alloc (Ext.drew xw)) x2); (first | replace hB := hB.ext x2 | replace hB := (hB.alloc _).ext x2 | replace hB := hB.drew.ext x2 | replace hB := (hB.drew.alloc _).ext x2)
    have hB_0 := hB.c0; have hB_1 := hB.c1
    go_wp2_with fail
    go_ret
    exact ⟨rfl, xw⟩
end Go.Proofs.Ytmkddcmfofabbaa
