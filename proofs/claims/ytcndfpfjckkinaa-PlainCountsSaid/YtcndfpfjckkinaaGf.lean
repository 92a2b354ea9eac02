/-
  divide.Floor.
-/
import Derived.Test.YtcndfpfjckkinaaGe
import Derived.Test.YtcndfpfjckkinaaGb
import Derived.Deep.DeepCutAuto
import Derived.Test.YtcndfpfjckkinaaGd
namespace Go.Proofs.Ytcndfpfjckkinaa
open Go Go.RowKit

theorem tdm {a b : Int} (hb : b ≠ 0) : a = b * a.tdiv b + a.tmod b ∧ (a.tmod b).natAbs < b.natAbs ∧ (a.tmod b).natAbs ≤ a.natAbs := by
  have h1 := Int.mul_tdiv_add_tmod a b
  have h2 := Int.natAbs_tmod a b
  have h3 := Nat.mod_lt a.natAbs (show 0 < b.natAbs by omega)
  have h4 := Nat.mod_le a.natAbs b.natAbs
  refine ⟨h1.symm, by omega, by omega⟩
theorem floor_same {a b : Int} (hb : b ≠ 0) (h : a.tmod b = 0 ∨ (a.tmod b < 0 ↔ b < 0)) : a.fdiv b = a.tdiv b ∧ a.fmod b = a.tmod b := by
  obtain ⟨h1, h2, h3⟩ := tdm (a := a) hb
  generalize a.tdiv b = q at *
  generalize a.tmod b = r at *
  by_cases h0 : 0 < b
  · exact fdiv_fmod_pos h0 h1 (by omega) (by omega)
  · exact fdiv_fmod_neg (by omega) h1 (by omega) (by omega)
theorem floor_less {a b : Int} (hb : b ≠ 0) (h0 : a.tmod b ≠ 0) (h : ¬ (a.tmod b < 0 ↔ b < 0)) : a.fdiv b = a.tdiv b - 1 ∧ a.fmod b = a.tmod b + b := by
  obtain ⟨h1, h2, h3⟩ := tdm (a := a) hb
  generalize a.tdiv b = q at *
  generalize a.tmod b = r at *
  have e : a = b * (q - 1) + (r + b) := by rw [Int.mul_sub, h1]; omega
  by_cases h0 : 0 < b
  · exact fdiv_fmod_pos h0 e (by omega) (by omega)
  · exact fdiv_fmod_neg (by omega) e (by omega) (by omega)
theorem tdiv_nat {a b : Int} : (a.tdiv b).natAbs = a.natAbs / b.natAbs := Int.natAbs_tdiv a b
theorem trunc_room {a b : Int} (ha : W128 a) (hb : b ≠ 0) (h : ¬ W128 (a.tdiv b)) : a.tmod b = 0 := by
  obtain ⟨h1, h2, h3⟩ := tdm (a := a) hb
  have e := tdiv_nat (a := a) (b := b)
  by_cases hb1 : b.natAbs = 1
  · omega
  · exfalso
    have : a.natAbs / b.natAbs ≤ a.natAbs / 2 := Nat.div_le_div_left (by omega) (by omega)
    unfold W128 at *
    omega
theorem floor_room {a b : Int} (ha : W128 a) (hb : b ≠ 0) (h0 : a.tmod b ≠ 0) : W128 (a.tdiv b - 1) := by
  obtain ⟨h1, h2, h3⟩ := tdm (a := a) hb
  have e := tdiv_nat (a := a) (b := b)
  have : a.natAbs / b.natAbs ≤ a.natAbs / 2 := Nat.div_le_div_left (by omega) (by omega)
  unfold W128 at *
  omega

def Trunc3 (a b : Int) : Prop := ∀ w, Calls Try.prog 135 #[.agg #[.int .i64 (hi a), .int .u64 (lo a)], .agg #[.int .i64 (hi b), .int .u64 (lo b)]] w (RetQ w (a.tdiv b) (a.tmod b))
set_option maxRecDepth 100000 in
set_option maxHeartbeats 3200000 in
theorem dfloor (a b : Int) (w : World) (ha : W128 a) (hb : W128 b) (h0 : b ≠ 0) (ho : Trunc3 a b) :
    Calls Try.prog 178 #[.agg #[.int .i64 (hi a), .int .u64 (lo a)], .agg #[.int .i64 (hi b), .int .u64 (lo b)]] w (RetQ w (a.fdiv b) (a.fmod b)) := by
  have H1 := Lib.hid ho
  have H2 := Lib.hid of_pure
  have H3 := Lib.hid wsub
  have H4 := Lib.hid wadd
  clear ho
  by_cases hq : W128 (a.tdiv b)
  · by_cases hr : a.tmod b = 0
    · obtain ⟨e1, e2⟩ := floor_same (a := a) h0 (Or.inl hr)
      rw [e1, e2]
      have HR := Lib.hid (show hi (a.tmod b) = 0 ∧ lo (a.tmod b) = 0 by rw [hr]; exact ⟨rfl, rfl⟩)
      have g1 : (hi (a.tmod b) == 0) = true := by rw [HR.out.1]; rfl
      have g2 : (lo (a.tmod b) == 0) = true := by rw [HR.out.2]; rfl
      clear e1 e2 hr
      go_enter Try.func178, Try.ntmps178
      go_wp2_with fail
      obtain ⟨W, hW⟩ : ∃ W, W = (((w.alloc (.cells #[.int .i64 (hi a), .int .u64 (lo a)] 38)).alloc (.cells #[.int .i64 (hi b), .int .u64 (lo b)] 38)).alloc (.cells #[.int .i64 0, .int .u64 0] 38)).alloc (.cells #[.int .i64 0, .int .u64 0] 38) := ⟨_, rfl⟩
      rw [← hW]
      have hB : Box2 W (w.heap.size + 1) (.int .i64 (hi b)) (.int .u64 (lo b)) 38 := by rw [hW]; exact ((Box2.new (by simp)).alloc _).alloc _
      have hR : Box2 W (w.heap.size + 1 + 1) (.int .i64 0) (.int .u64 0) 38 := by rw [hW]; exact (Box2.new (by simp)).alloc _
      have hS : Box2 W (w.heap.size + 1 + 1 + 1) (.int .i64 0) (.int .u64 0) 38 := by rw [hW]; exact Box2.new (by simp)
      have xw : Ext w W := by rw [hW]; exact (Ext.refl w).alloc.alloc.alloc.alloc
      clear hW
      refine (H1.out _).mono ?_
      rintro e w1 ⟨rfl, x1⟩
      (first | replace xw := Ext.trans xw x1 | replace xw := Ext.trans (Ext.alloc xw) x1 | replace xw := Ext.trans (Ext.drew xw) x1 | replace xw := Ext.trans (Ext.alloc (Ext.drew xw)) x1); (first | replace hB := hB.ext x1 | replace hB := (hB.alloc _).ext x1 | replace hB := hB.drew.ext x1 | replace hB := (hB.drew.alloc _).ext x1); (first | replace hR := hR.ext x1 | replace hR := (hR.alloc _).ext x1 | replace hR := hR.drew.ext x1 | replace hR := (hR.drew.alloc _).ext x1); (first | replace hS := hS.ext x1 | replace hS := (hS.alloc _).ext x1 | replace hS := hS.drew.ext x1 | replace hS := (hS.drew.alloc _).ext x1)
      have y1 := hS.kind.lt
      rw [thi_yes hq, tlo_yes hq, ter_yes hq, show qh (a.tdiv b) (a.tmod b) = hi (a.tmod b) from if_pos hq, show ql (a.tdiv b) (a.tmod b) = lo (a.tmod b) from if_pos hq]
      obtain ⟨V, hV⟩ : ∃ V, V = (w1.alloc (.cells #[.int .i64 (hi (a.tdiv b)), .int .u64 (lo (a.tdiv b))] 38)).alloc (.cells #[.int .i64 (hi (a.tmod b)), .int .u64 (lo (a.tmod b))] 38) := ⟨_, rfl⟩
      have hP : Box2 V w1.heap.size (.int .i64 (hi (a.tdiv b))) (.int .u64 (lo (a.tdiv b))) 38 := by rw [hV]; exact (Box2.new rfl).alloc _
      have hQ : Box2 V (w1.heap.size + 1) (.int .i64 (hi (a.tmod b))) (.int .u64 (lo (a.tmod b))) 38 := by rw [hV]; exact Box2.new (by simp)
      replace hB := hB.named2 hV
      replace hR := hR.named2 hV
      replace hS := hS.named2 hV
      replace xw : Ext w V := by rw [hV]; exact Ext.alloc (Ext.alloc xw)
      have kB := hB
      rw [hV] at kB
      have kQ := hQ
      rw [hV] at kQ
      have kB_0 := kB.c0; have kB_1 := kB.c1; have kQ_0 := kQ.c0; have kQ_1 := kQ.c1
      go_wp2_with fail
      rw [← hV]
      clear kB_0 kB_1 kQ_0 kQ_1
      clear kB kQ hV
      have n1 : ¬ w1.heap.size = w.heap.size + 1 + 1 := by omega
      have n2 : ¬ w1.heap.size = w.heap.size + 1 + 1 + 1 := by omega
      have n3 : ¬ w1.heap.size + 1 = w.heap.size + 1 + 1 := by omega
      have n4 : ¬ w1.heap.size + 1 = w.heap.size + 1 + 1 + 1 := by omega
      have n5 : ¬ w.heap.size + 1 + 1 = w1.heap.size := by omega
      have n6 : ¬ w.heap.size + 1 + 1 + 1 = w1.heap.size := by omega
      have n7 : ¬ w.heap.size + 1 = w1.heap.size := by omega
      have n8 : ¬ w.heap.size + 1 + 1 = w1.heap.size + 1 := by omega
      have n9 : ¬ w1.heap.size = w.heap.size + 1 := by omega
      have hP_0 := hP.c0; have hP_1 := hP.c1; have hQ_0 := hQ.c0; have hQ_1 := hQ.c1; have hR_0 := hR.c0; have hR_1 := hR.c1; have hS_0 := hS.c0; have hS_1 := hS.c1
      have hR_2 := hR.f0; have hR_3 := hR.f1; have hS_2 := hS.f0; have hS_3 := hS.f1
      go_region
      go_wp2_with fail
      refine bodyPost_ret (v := .tuple #[.agg #[.int .i64 (hi (a.tdiv b)), .int .u64 (lo (a.tdiv b))], .agg #[.int .i64 (hi (a.tmod b)), .int .u64 (lo (a.tmod b))], .int .i64 0]) (by simp [results, Try.results178, go_sem, hR_0, hR_1, hS_0, hS_1]) rfl (retQ_yes hq ?_)
      exact Ext.drew (Ext.set (Ext.set (Ext.set (Ext.set xw (by omega)) (by omega)) (by omega)) (by omega))
    · by_cases hs : a.tmod b < 0 ↔ b < 0
      · obtain ⟨e1, e2⟩ := floor_same (a := a) h0 (Or.inr hs)
        rw [e1, e2]
        have hsg : (decide (hi (a.tmod b) < 0) == decide (hi b < 0)) = true := by
          simp only [beq_iff_eq, decide_eq_decide, hi_neg]; exact hs
        clear e1 e2
        by_cases hz : hi (a.tmod b) = 0
        · have g1 : (hi (a.tmod b) == 0) = true := by simpa using hz
          have g2 : (lo (a.tmod b) == 0) = false := by
            simp only [beq_eq_false_iff_ne, ne_eq]; intro h; apply hr; rw [hi_lo (a.tmod b), hz, h]; rfl
          clear hz hr hs
          go_enter Try.func178, Try.ntmps178
          go_wp2_with fail
          obtain ⟨W, hW⟩ : ∃ W, W = (((w.alloc (.cells #[.int .i64 (hi a), .int .u64 (lo a)] 38)).alloc (.cells #[.int .i64 (hi b), .int .u64 (lo b)] 38)).alloc (.cells #[.int .i64 0, .int .u64 0] 38)).alloc (.cells #[.int .i64 0, .int .u64 0] 38) := ⟨_, rfl⟩
          rw [← hW]
          have hB : Box2 W (w.heap.size + 1) (.int .i64 (hi b)) (.int .u64 (lo b)) 38 := by rw [hW]; exact ((Box2.new (by simp)).alloc _).alloc _
          have hR : Box2 W (w.heap.size + 1 + 1) (.int .i64 0) (.int .u64 0) 38 := by rw [hW]; exact (Box2.new (by simp)).alloc _
          have hS : Box2 W (w.heap.size + 1 + 1 + 1) (.int .i64 0) (.int .u64 0) 38 := by rw [hW]; exact Box2.new (by simp)
          have xw : Ext w W := by rw [hW]; exact (Ext.refl w).alloc.alloc.alloc.alloc
          clear hW
          refine (H1.out _).mono ?_
          rintro e w1 ⟨rfl, x1⟩
          (first | replace xw := Ext.trans xw x1 | replace xw := Ext.trans (Ext.alloc xw) x1 | replace xw := Ext.trans (Ext.drew xw) x1 | replace xw := Ext.trans (Ext.alloc (Ext.drew xw)) x1); (first | replace hB := hB.ext x1 | replace hB := (hB.alloc _).ext x1 | replace hB := hB.drew.ext x1 | replace hB := (hB.drew.alloc _).ext x1); (first | replace hR := hR.ext x1 | replace hR := (hR.alloc _).ext x1 | replace hR := hR.drew.ext x1 | replace hR := (hR.drew.alloc _).ext x1); (first | replace hS := hS.ext x1 | replace hS := (hS.alloc _).ext x1 | replace hS := hS.drew.ext x1 | replace hS := (hS.drew.alloc _).ext x1)
          have y1 := hS.kind.lt
          rw [thi_yes hq, tlo_yes hq, ter_yes hq, show qh (a.tdiv b) (a.tmod b) = hi (a.tmod b) from if_pos hq, show ql (a.tdiv b) (a.tmod b) = lo (a.tmod b) from if_pos hq]
          obtain ⟨V, hV⟩ : ∃ V, V = (w1.alloc (.cells #[.int .i64 (hi (a.tdiv b)), .int .u64 (lo (a.tdiv b))] 38)).alloc (.cells #[.int .i64 (hi (a.tmod b)), .int .u64 (lo (a.tmod b))] 38) := ⟨_, rfl⟩
          have hP : Box2 V w1.heap.size (.int .i64 (hi (a.tdiv b))) (.int .u64 (lo (a.tdiv b))) 38 := by rw [hV]; exact (Box2.new rfl).alloc _
          have hQ : Box2 V (w1.heap.size + 1) (.int .i64 (hi (a.tmod b))) (.int .u64 (lo (a.tmod b))) 38 := by rw [hV]; exact Box2.new (by simp)
          replace hB := hB.named2 hV
          replace hR := hR.named2 hV
          replace hS := hS.named2 hV
          replace xw : Ext w V := by rw [hV]; exact Ext.alloc (Ext.alloc xw)
          have kB := hB
          rw [hV] at kB
          have kQ := hQ
          rw [hV] at kQ
          have kB_0 := kB.c0; have kB_1 := kB.c1; have kQ_0 := kQ.c0; have kQ_1 := kQ.c1
          go_wp2_with fail
          rw [← hV]
          clear kB_0 kB_1 kQ_0 kQ_1
          clear kB kQ hV
          have n1 : ¬ w1.heap.size = w.heap.size + 1 + 1 := by omega
          have n2 : ¬ w1.heap.size = w.heap.size + 1 + 1 + 1 := by omega
          have n3 : ¬ w1.heap.size + 1 = w.heap.size + 1 + 1 := by omega
          have n4 : ¬ w1.heap.size + 1 = w.heap.size + 1 + 1 + 1 := by omega
          have n5 : ¬ w.heap.size + 1 + 1 = w1.heap.size := by omega
          have n6 : ¬ w.heap.size + 1 + 1 + 1 = w1.heap.size := by omega
          have n7 : ¬ w.heap.size + 1 = w1.heap.size := by omega
          have n8 : ¬ w.heap.size + 1 + 1 = w1.heap.size + 1 := by omega
          have n9 : ¬ w1.heap.size = w.heap.size + 1 := by omega
          have hP_0 := hP.c0; have hP_1 := hP.c1; have hQ_0 := hQ.c0; have hQ_1 := hQ.c1; have hR_0 := hR.c0; have hR_1 := hR.c1; have hS_0 := hS.c0; have hS_1 := hS.c1
          have hR_2 := hR.f0; have hR_3 := hR.f1; have hS_2 := hS.f0; have hS_3 := hS.f1
          go_region
          go_wp2_with fail
          refine bodyPost_ret (v := .tuple #[.agg #[.int .i64 (hi (a.tdiv b)), .int .u64 (lo (a.tdiv b))], .agg #[.int .i64 (hi (a.tmod b)), .int .u64 (lo (a.tmod b))], .int .i64 0]) (by simp [results, Try.results178, go_sem, hR_0, hR_1, hS_0, hS_1]) rfl (retQ_yes hq ?_)
          exact Ext.drew (Ext.set (Ext.set (Ext.set (Ext.set xw (by omega)) (by omega)) (by omega)) (by omega))
        · have g1 : (hi (a.tmod b) == 0) = false := by simpa using hz
          clear hz hr hs
          go_enter Try.func178, Try.ntmps178
          go_wp2_with fail
          obtain ⟨W, hW⟩ : ∃ W, W = (((w.alloc (.cells #[.int .i64 (hi a), .int .u64 (lo a)] 38)).alloc (.cells #[.int .i64 (hi b), .int .u64 (lo b)] 38)).alloc (.cells #[.int .i64 0, .int .u64 0] 38)).alloc (.cells #[.int .i64 0, .int .u64 0] 38) := ⟨_, rfl⟩
          rw [← hW]
          have hB : Box2 W (w.heap.size + 1) (.int .i64 (hi b)) (.int .u64 (lo b)) 38 := by rw [hW]; exact ((Box2.new (by simp)).alloc _).alloc _
          have hR : Box2 W (w.heap.size + 1 + 1) (.int .i64 0) (.int .u64 0) 38 := by rw [hW]; exact (Box2.new (by simp)).alloc _
          have hS : Box2 W (w.heap.size + 1 + 1 + 1) (.int .i64 0) (.int .u64 0) 38 := by rw [hW]; exact Box2.new (by simp)
          have xw : Ext w W := by rw [hW]; exact (Ext.refl w).alloc.alloc.alloc.alloc
          clear hW
          refine (H1.out _).mono ?_
          rintro e w1 ⟨rfl, x1⟩
          (first | replace xw := Ext.trans xw x1 | replace xw := Ext.trans (Ext.alloc xw) x1 | replace xw := Ext.trans (Ext.drew xw) x1 | replace xw := Ext.trans (Ext.alloc (Ext.drew xw)) x1); (first | replace hB := hB.ext x1 | replace hB := (hB.alloc _).ext x1 | replace hB := hB.drew.ext x1 | replace hB := (hB.drew.alloc _).ext x1); (first | replace hR := hR.ext x1 | replace hR := (hR.alloc _).ext x1 | replace hR := hR.drew.ext x1 | replace hR := (hR.drew.alloc _).ext x1); (first | replace hS := hS.ext x1 | replace hS := (hS.alloc _).ext x1 | replace hS := hS.drew.ext x1 | replace hS := (hS.drew.alloc _).ext x1)
          have y1 := hS.kind.lt
          rw [thi_yes hq, tlo_yes hq, ter_yes hq, show qh (a.tdiv b) (a.tmod b) = hi (a.tmod b) from if_pos hq, show ql (a.tdiv b) (a.tmod b) = lo (a.tmod b) from if_pos hq]
          obtain ⟨V, hV⟩ : ∃ V, V = (w1.alloc (.cells #[.int .i64 (hi (a.tdiv b)), .int .u64 (lo (a.tdiv b))] 38)).alloc (.cells #[.int .i64 (hi (a.tmod b)), .int .u64 (lo (a.tmod b))] 38) := ⟨_, rfl⟩
          have hP : Box2 V w1.heap.size (.int .i64 (hi (a.tdiv b))) (.int .u64 (lo (a.tdiv b))) 38 := by rw [hV]; exact (Box2.new rfl).alloc _
          have hQ : Box2 V (w1.heap.size + 1) (.int .i64 (hi (a.tmod b))) (.int .u64 (lo (a.tmod b))) 38 := by rw [hV]; exact Box2.new (by simp)
          replace hB := hB.named2 hV
          replace hR := hR.named2 hV
          replace hS := hS.named2 hV
          replace xw : Ext w V := by rw [hV]; exact Ext.alloc (Ext.alloc xw)
          have kB := hB
          rw [hV] at kB
          have kQ := hQ
          rw [hV] at kQ
          have kB_0 := kB.c0; have kB_1 := kB.c1; have kQ_0 := kQ.c0; have kQ_1 := kQ.c1
          go_wp2_with fail
          rw [← hV]
          clear kB_0 kB_1 kQ_0 kQ_1
          clear kB kQ hV
          have n1 : ¬ w1.heap.size = w.heap.size + 1 + 1 := by omega
          have n2 : ¬ w1.heap.size = w.heap.size + 1 + 1 + 1 := by omega
          have n3 : ¬ w1.heap.size + 1 = w.heap.size + 1 + 1 := by omega
          have n4 : ¬ w1.heap.size + 1 = w.heap.size + 1 + 1 + 1 := by omega
          have n5 : ¬ w.heap.size + 1 + 1 = w1.heap.size := by omega
          have n6 : ¬ w.heap.size + 1 + 1 + 1 = w1.heap.size := by omega
          have n7 : ¬ w.heap.size + 1 = w1.heap.size := by omega
          have n8 : ¬ w.heap.size + 1 + 1 = w1.heap.size + 1 := by omega
          have n9 : ¬ w1.heap.size = w.heap.size + 1 := by omega
          have hP_0 := hP.c0; have hP_1 := hP.c1; have hQ_0 := hQ.c0; have hQ_1 := hQ.c1; have hR_0 := hR.c0; have hR_1 := hR.c1; have hS_0 := hS.c0; have hS_1 := hS.c1
          have hR_2 := hR.f0; have hR_3 := hR.f1; have hS_2 := hS.f0; have hS_3 := hS.f1
          go_region
          go_wp2_with fail
          refine bodyPost_ret (v := .tuple #[.agg #[.int .i64 (hi (a.tdiv b)), .int .u64 (lo (a.tdiv b))], .agg #[.int .i64 (hi (a.tmod b)), .int .u64 (lo (a.tmod b))], .int .i64 0]) (by simp [results, Try.results178, go_sem, hR_0, hR_1, hS_0, hS_1]) rfl (retQ_yes hq ?_)
          exact Ext.drew (Ext.set (Ext.set (Ext.set (Ext.set xw (by omega)) (by omega)) (by omega)) (by omega))
      · obtain ⟨e1, e2⟩ := floor_less (a := a) h0 hr hs
        have hq1 := floor_room ha h0 hr
        have hr1 : W128 (a.tmod b + b) := by
          obtain ⟨k1, k2, k3⟩ := tdm (a := a) h0
          unfold W128 at *
          omega
        have hrW := tmod_W (a := a) hb h0
        rw [e1, e2]
        have hsg : (decide (hi (a.tmod b) < 0) == decide (hi b < 0)) = false := by
          simp only [beq_eq_false_iff_ne, ne_eq, decide_eq_decide, hi_neg]; exact hs
        have hW1 : W128 1 := by unfold W128; omega
        clear e1 e2
        by_cases hz : hi (a.tmod b) = 0
        · have g1 : (hi (a.tmod b) == 0) = true := by simpa using hz
          have g2 : (lo (a.tmod b) == 0) = false := by
            simp only [beq_eq_false_iff_ne, ne_eq]; intro h; apply hr; rw [hi_lo (a.tmod b), hz, h]; rfl
          clear hz hr hs
          go_enter Try.func178, Try.ntmps178
          go_wp2_with fail
          obtain ⟨W, hW⟩ : ∃ W, W = (((w.alloc (.cells #[.int .i64 (hi a), .int .u64 (lo a)] 38)).alloc (.cells #[.int .i64 (hi b), .int .u64 (lo b)] 38)).alloc (.cells #[.int .i64 0, .int .u64 0] 38)).alloc (.cells #[.int .i64 0, .int .u64 0] 38) := ⟨_, rfl⟩
          rw [← hW]
          have hB : Box2 W (w.heap.size + 1) (.int .i64 (hi b)) (.int .u64 (lo b)) 38 := by rw [hW]; exact ((Box2.new (by simp)).alloc _).alloc _
          have hR : Box2 W (w.heap.size + 1 + 1) (.int .i64 0) (.int .u64 0) 38 := by rw [hW]; exact (Box2.new (by simp)).alloc _
          have hS : Box2 W (w.heap.size + 1 + 1 + 1) (.int .i64 0) (.int .u64 0) 38 := by rw [hW]; exact Box2.new (by simp)
          have xw : Ext w W := by rw [hW]; exact (Ext.refl w).alloc.alloc.alloc.alloc
          clear hW
          refine (H1.out _).mono ?_
          rintro e w1 ⟨rfl, x1⟩
          (first | replace xw := Ext.trans xw x1 | replace xw := Ext.trans (Ext.alloc xw) x1 | replace xw := Ext.trans (Ext.drew xw) x1 | replace xw := Ext.trans (Ext.alloc (Ext.drew xw)) x1); (first | replace hB := hB.ext x1 | replace hB := (hB.alloc _).ext x1 | replace hB := hB.drew.ext x1 | replace hB := (hB.drew.alloc _).ext x1); (first | replace hR := hR.ext x1 | replace hR := (hR.alloc _).ext x1 | replace hR := hR.drew.ext x1 | replace hR := (hR.drew.alloc _).ext x1); (first | replace hS := hS.ext x1 | replace hS := (hS.alloc _).ext x1 | replace hS := hS.drew.ext x1 | replace hS := (hS.drew.alloc _).ext x1)
          have y1 := hS.kind.lt
          rw [thi_yes hq, tlo_yes hq, ter_yes hq, show qh (a.tdiv b) (a.tmod b) = hi (a.tmod b) from if_pos hq, show ql (a.tdiv b) (a.tmod b) = lo (a.tmod b) from if_pos hq]
          obtain ⟨V, hV⟩ : ∃ V, V = (w1.alloc (.cells #[.int .i64 (hi (a.tdiv b)), .int .u64 (lo (a.tdiv b))] 38)).alloc (.cells #[.int .i64 (hi (a.tmod b)), .int .u64 (lo (a.tmod b))] 38) := ⟨_, rfl⟩
          have hP : Box2 V w1.heap.size (.int .i64 (hi (a.tdiv b))) (.int .u64 (lo (a.tdiv b))) 38 := by rw [hV]; exact (Box2.new rfl).alloc _
          have hQ : Box2 V (w1.heap.size + 1) (.int .i64 (hi (a.tmod b))) (.int .u64 (lo (a.tmod b))) 38 := by rw [hV]; exact Box2.new (by simp)
          replace hB := hB.named2 hV
          replace hR := hR.named2 hV
          replace hS := hS.named2 hV
          replace xw : Ext w V := by rw [hV]; exact Ext.alloc (Ext.alloc xw)
          have kB := hB
          rw [hV] at kB
          have kQ := hQ
          rw [hV] at kQ
          have kB_0 := kB.c0; have kB_1 := kB.c1; have kQ_0 := kQ.c0; have kQ_1 := kQ.c1
          go_wp2_with fail
          rw [← hV]
          clear kB_0 kB_1 kQ_0 kQ_1
          clear kB kQ hV
          go_cut [9] (fun s9 wx => s9 = .int .i64 0 ∧ Box2 wx w1.heap.size (.int .i64 (hi (a.tdiv b - 1))) (.int .u64 (lo (a.tdiv b - 1))) 38 ∧ Box2 wx (w1.heap.size + 1) (.int .i64 (hi (a.tmod b))) (.int .u64 (lo (a.tmod b))) 38 ∧
            Box2 wx (w.heap.size + 1) (.int .i64 (hi b)) (.int .u64 (lo b)) 38 ∧ Box2 wx (w.heap.size + 1 + 1) (.int .i64 0) (.int .u64 0) 38 ∧ Box2 wx (w.heap.size + 1 + 1 + 1) (.int .i64 0) (.int .u64 0) 38 ∧ Ext w wx)
          case first =>
            have hP_0 := hP.c0; have hP_1 := hP.c1
            have d0 := hP.drew.c0
            have d1 := hP.drew.c1
            go_region_with (first
              | (go_at_call 51; refine (H2.out 1 _ (by omega) (by omega)).mono ?_; rintro e w2 ⟨rfl, x2⟩; have p := hP.drew.ext x2; have p0 := p.c0; have p1 := p.c1)
              | (go_at_call 130; refine (H3.out (a.tdiv b) 1 _ hq hW1).mono ?_; rw [show RetT _ (a.tdiv b - 1) = fun e w' => e = .returned (.tuple #[.agg #[.int .i64 (hi (a.tdiv b - 1)), .int .u64 (lo (a.tdiv b - 1))], .int .i64 0]) ∧ Ext _ w' from by unfold RetT; rw [thi_yes hq1, tlo_yes hq1, ter_yes hq1]]; rintro e w3 ⟨rfl, x3⟩; have q := (hP.drew.ext x2).ext x3; have q0 := q.c0; have q1 := q.c1; have q2 := q.f0; have q3 := q.f1))
            all_goals
              go_wp2_with fail
              go_meet
              exact ⟨rfl, q.set _ _, ((hQ.drew.ext x2).ext x3).other2 (by omega) _ _, ((hB.drew.ext x2).ext x3).other2 (by omega) _ _, ((hR.drew.ext x2).ext x3).other2 (by omega) _ _, ((hS.drew.ext x2).ext x3).other2 (by omega) _ _, Ext.set (Ext.set (Ext.trans (Ext.trans (Ext.drew xw) x2) x3) (by omega)) (by omega)⟩
          case rest =>
            obtain ⟨rfl, hP, hQ, hB, hR, hS, xw⟩ := hcut
            have hQ_0 := hQ.c0; have hQ_1 := hQ.c1; have hB_0 := hB.c0; have hB_1 := hB.c1
            go_wp2_with fail
            clear hQ_0 hQ_1 hB_0 hB_1
            refine (H4.out _ _ _ hrW hb).mono ?_
            rintro e w4 ⟨rfl, x4⟩
            rw [thi_yes hr1, tlo_yes hr1, ter_yes hr1]
            (first | replace xw := Ext.trans xw x4 | replace xw := Ext.trans (Ext.alloc xw) x4 | replace xw := Ext.trans (Ext.drew xw) x4 | replace xw := Ext.trans (Ext.alloc (Ext.drew xw)) x4); (first | replace hP := hP.ext x4 | replace hP := (hP.alloc _).ext x4 | replace hP := hP.drew.ext x4 | replace hP := (hP.drew.alloc _).ext x4); (first | replace hQ := hQ.ext x4 | replace hQ := (hQ.alloc _).ext x4 | replace hQ := hQ.drew.ext x4 | replace hQ := (hQ.drew.alloc _).ext x4); (first | replace hB := hB.ext x4 | replace hB := (hB.alloc _).ext x4 | replace hB := hB.drew.ext x4 | replace hB := (hB.drew.alloc _).ext x4); (first | replace hR := hR.ext x4 | replace hR := (hR.alloc _).ext x4 | replace hR := hR.drew.ext x4 | replace hR := (hR.drew.alloc _).ext x4); (first | replace hS := hS.ext x4 | replace hS := (hS.alloc _).ext x4 | replace hS := hS.drew.ext x4 | replace hS := (hS.drew.alloc _).ext x4)
            have hQ_0 := hQ.c0; have hQ_1 := hQ.c1
            have hQ_2 := hQ.f0; have hQ_3 := hQ.f1
            go_wp2_with fail
            clear hQ_0 hQ_1 hQ_2 hQ_3
            obtain ⟨U, hU⟩ : ∃ U, U = (w4.setCell ⟨w1.heap.size + 1, 0, none⟩ (.int .i64 (hi (a.tmod b + b)))).setCell ⟨w1.heap.size + 1, 1, none⟩ (.int .u64 (lo (a.tmod b + b))) := ⟨_, rfl⟩
            replace hP : Box2 U w1.heap.size (.int .i64 (hi (a.tdiv b - 1))) (.int .u64 (lo (a.tdiv b - 1))) 38 := by rw [hU]; exact hP.other2 (by omega) _ _
            replace hR : Box2 U (w.heap.size + 1 + 1) (.int .i64 0) (.int .u64 0) 38 := by rw [hU]; exact hR.other2 (by omega) _ _
            replace hS : Box2 U (w.heap.size + 1 + 1 + 1) (.int .i64 0) (.int .u64 0) 38 := by rw [hU]; exact hS.other2 (by omega) _ _
            replace hQ : Box2 U (w1.heap.size + 1) (.int .i64 (hi (a.tmod b + b))) (.int .u64 (lo (a.tmod b + b))) 38 := by rw [hU]; exact hQ.set _ _
            replace xw : Ext w U := by rw [hU]; exact Ext.set (Ext.set xw (by omega)) (by omega)
            rw [← hU]
            clear hU
            have n1 : ¬ w1.heap.size = w.heap.size + 1 + 1 := by omega
            have n2 : ¬ w1.heap.size = w.heap.size + 1 + 1 + 1 := by omega
            have n3 : ¬ w1.heap.size + 1 = w.heap.size + 1 + 1 := by omega
            have n4 : ¬ w1.heap.size + 1 = w.heap.size + 1 + 1 + 1 := by omega
            have n5 : ¬ w.heap.size + 1 + 1 = w1.heap.size := by omega
            have n6 : ¬ w.heap.size + 1 + 1 + 1 = w1.heap.size := by omega
            have n7 : ¬ w.heap.size + 1 = w1.heap.size := by omega
            have n8 : ¬ w.heap.size + 1 + 1 = w1.heap.size + 1 := by omega
            have n9 : ¬ w1.heap.size = w.heap.size + 1 := by omega
            have hP_0 := hP.c0; have hP_1 := hP.c1; have hQ_0 := hQ.c0; have hQ_1 := hQ.c1; have hR_0 := hR.c0; have hR_1 := hR.c1; have hS_0 := hS.c0; have hS_1 := hS.c1
            have hR_2 := hR.f0; have hR_3 := hR.f1; have hS_2 := hS.f0; have hS_3 := hS.f1
            go_region
            go_wp2_with fail
            refine bodyPost_ret (v := .tuple #[.agg #[.int .i64 (hi (a.tdiv b - 1)), .int .u64 (lo (a.tdiv b - 1))], .agg #[.int .i64 (hi (a.tmod b + b)), .int .u64 (lo (a.tmod b + b))], .int .i64 0]) (by simp [results, Try.results178, go_sem, hR_0, hR_1, hS_0, hS_1]) rfl (retQ_yes hq1 ?_)
            exact Ext.drew (Ext.set (Ext.set (Ext.set (Ext.set xw (by omega)) (by omega)) (by omega)) (by omega))
        · have g1 : (hi (a.tmod b) == 0) = false := by simpa using hz
          clear hz hr hs
          go_enter Try.func178, Try.ntmps178
          go_wp2_with fail
          obtain ⟨W, hW⟩ : ∃ W, W = (((w.alloc (.cells #[.int .i64 (hi a), .int .u64 (lo a)] 38)).alloc (.cells #[.int .i64 (hi b), .int .u64 (lo b)] 38)).alloc (.cells #[.int .i64 0, .int .u64 0] 38)).alloc (.cells #[.int .i64 0, .int .u64 0] 38) := ⟨_, rfl⟩
          rw [← hW]
          have hB : Box2 W (w.heap.size + 1) (.int .i64 (hi b)) (.int .u64 (lo b)) 38 := by rw [hW]; exact ((Box2.new (by simp)).alloc _).alloc _
          have hR : Box2 W (w.heap.size + 1 + 1) (.int .i64 0) (.int .u64 0) 38 := by rw [hW]; exact (Box2.new (by simp)).alloc _
          have hS : Box2 W (w.heap.size + 1 + 1 + 1) (.int .i64 0) (.int .u64 0) 38 := by rw [hW]; exact Box2.new (by simp)
          have xw : Ext w W := by rw [hW]; exact (Ext.refl w).alloc.alloc.alloc.alloc
          clear hW
          refine (H1.out _).mono ?_
          rintro e w1 ⟨rfl, x1⟩
          (first | replace xw := Ext.trans xw x1 | replace xw := Ext.trans (Ext.alloc xw) x1 | replace xw := Ext.trans (Ext.drew xw) x1 | replace xw := Ext.trans (Ext.alloc (Ext.drew xw)) x1); (first | replace hB := hB.ext x1 | replace hB := (hB.alloc _).ext x1 | replace hB := hB.drew.ext x1 | replace hB := (hB.drew.alloc _).ext x1); (first | replace hR := hR.ext x1 | replace hR := (hR.alloc _).ext x1 | replace hR := hR.drew.ext x1 | replace hR := (hR.drew.alloc _).ext x1); (first | replace hS := hS.ext x1 | replace hS := (hS.alloc _).ext x1 | replace hS := hS.drew.ext x1 | replace hS := (hS.drew.alloc _).ext x1)
          have y1 := hS.kind.lt
          rw [thi_yes hq, tlo_yes hq, ter_yes hq, show qh (a.tdiv b) (a.tmod b) = hi (a.tmod b) from if_pos hq, show ql (a.tdiv b) (a.tmod b) = lo (a.tmod b) from if_pos hq]
          obtain ⟨V, hV⟩ : ∃ V, V = (w1.alloc (.cells #[.int .i64 (hi (a.tdiv b)), .int .u64 (lo (a.tdiv b))] 38)).alloc (.cells #[.int .i64 (hi (a.tmod b)), .int .u64 (lo (a.tmod b))] 38) := ⟨_, rfl⟩
          have hP : Box2 V w1.heap.size (.int .i64 (hi (a.tdiv b))) (.int .u64 (lo (a.tdiv b))) 38 := by rw [hV]; exact (Box2.new rfl).alloc _
          have hQ : Box2 V (w1.heap.size + 1) (.int .i64 (hi (a.tmod b))) (.int .u64 (lo (a.tmod b))) 38 := by rw [hV]; exact Box2.new (by simp)
          replace hB := hB.named2 hV
          replace hR := hR.named2 hV
          replace hS := hS.named2 hV
          replace xw : Ext w V := by rw [hV]; exact Ext.alloc (Ext.alloc xw)
          have kB := hB
          rw [hV] at kB
          have kQ := hQ
          rw [hV] at kQ
          have kB_0 := kB.c0; have kB_1 := kB.c1; have kQ_0 := kQ.c0; have kQ_1 := kQ.c1
          go_wp2_with fail
          rw [← hV]
          clear kB_0 kB_1 kQ_0 kQ_1
          clear kB kQ hV
          go_cut [9] (fun s9 wx => s9 = .int .i64 0 ∧ Box2 wx w1.heap.size (.int .i64 (hi (a.tdiv b - 1))) (.int .u64 (lo (a.tdiv b - 1))) 38 ∧ Box2 wx (w1.heap.size + 1) (.int .i64 (hi (a.tmod b))) (.int .u64 (lo (a.tmod b))) 38 ∧
            Box2 wx (w.heap.size + 1) (.int .i64 (hi b)) (.int .u64 (lo b)) 38 ∧ Box2 wx (w.heap.size + 1 + 1) (.int .i64 0) (.int .u64 0) 38 ∧ Box2 wx (w.heap.size + 1 + 1 + 1) (.int .i64 0) (.int .u64 0) 38 ∧ Ext w wx)
          case first =>
            have hP_0 := hP.c0; have hP_1 := hP.c1
            have d0 := hP.drew.c0
            have d1 := hP.drew.c1
            go_region_with (first
              | (go_at_call 51; refine (H2.out 1 _ (by omega) (by omega)).mono ?_; rintro e w2 ⟨rfl, x2⟩; have p := hP.drew.ext x2; have p0 := p.c0; have p1 := p.c1)
              | (go_at_call 130; refine (H3.out (a.tdiv b) 1 _ hq hW1).mono ?_; rw [show RetT _ (a.tdiv b - 1) = fun e w' => e = .returned (.tuple #[.agg #[.int .i64 (hi (a.tdiv b - 1)), .int .u64 (lo (a.tdiv b - 1))], .int .i64 0]) ∧ Ext _ w' from by unfold RetT; rw [thi_yes hq1, tlo_yes hq1, ter_yes hq1]]; rintro e w3 ⟨rfl, x3⟩; have q := (hP.drew.ext x2).ext x3; have q0 := q.c0; have q1 := q.c1; have q2 := q.f0; have q3 := q.f1))
            all_goals
              go_wp2_with fail
              go_meet
              exact ⟨rfl, q.set _ _, ((hQ.drew.ext x2).ext x3).other2 (by omega) _ _, ((hB.drew.ext x2).ext x3).other2 (by omega) _ _, ((hR.drew.ext x2).ext x3).other2 (by omega) _ _, ((hS.drew.ext x2).ext x3).other2 (by omega) _ _, Ext.set (Ext.set (Ext.trans (Ext.trans (Ext.drew xw) x2) x3) (by omega)) (by omega)⟩
          case rest =>
            obtain ⟨rfl, hP, hQ, hB, hR, hS, xw⟩ := hcut
            have hQ_0 := hQ.c0; have hQ_1 := hQ.c1; have hB_0 := hB.c0; have hB_1 := hB.c1
            go_wp2_with fail
            clear hQ_0 hQ_1 hB_0 hB_1
            refine (H4.out _ _ _ hrW hb).mono ?_
            rintro e w4 ⟨rfl, x4⟩
            rw [thi_yes hr1, tlo_yes hr1, ter_yes hr1]
            (first | replace xw := Ext.trans xw x4 | replace xw := Ext.trans (Ext.alloc xw) x4 | replace xw := Ext.trans (Ext.drew xw) x4 | replace xw := Ext.trans (Ext.alloc (Ext.drew xw)) x4); (first | replace hP := hP.ext x4 | replace hP := (hP.alloc _).ext x4 | replace hP := hP.drew.ext x4 | replace hP := (hP.drew.alloc _).ext x4); (first | replace hQ := hQ.ext x4 | replace hQ := (hQ.alloc _).ext x4 | replace hQ := hQ.drew.ext x4 | replace hQ := (hQ.drew.alloc _).ext x4); (first | replace hB := hB.ext x4 | replace hB := (hB.alloc _).ext x4 | replace hB := hB.drew.ext x4 | replace hB := (hB.drew.alloc _).ext x4); (first | replace hR := hR.ext x4 | replace hR := (hR.alloc _).ext x4 | replace hR := hR.drew.ext x4 | replace hR := (hR.drew.alloc _).ext x4); (first | replace hS := hS.ext x4 | replace hS := (hS.alloc _).ext x4 | replace hS := hS.drew.ext x4 | replace hS := (hS.drew.alloc _).ext x4)
            have hQ_0 := hQ.c0; have hQ_1 := hQ.c1
            have hQ_2 := hQ.f0; have hQ_3 := hQ.f1
            go_wp2_with fail
            clear hQ_0 hQ_1 hQ_2 hQ_3
            obtain ⟨U, hU⟩ : ∃ U, U = (w4.setCell ⟨w1.heap.size + 1, 0, none⟩ (.int .i64 (hi (a.tmod b + b)))).setCell ⟨w1.heap.size + 1, 1, none⟩ (.int .u64 (lo (a.tmod b + b))) := ⟨_, rfl⟩
            replace hP : Box2 U w1.heap.size (.int .i64 (hi (a.tdiv b - 1))) (.int .u64 (lo (a.tdiv b - 1))) 38 := by rw [hU]; exact hP.other2 (by omega) _ _
            replace hR : Box2 U (w.heap.size + 1 + 1) (.int .i64 0) (.int .u64 0) 38 := by rw [hU]; exact hR.other2 (by omega) _ _
            replace hS : Box2 U (w.heap.size + 1 + 1 + 1) (.int .i64 0) (.int .u64 0) 38 := by rw [hU]; exact hS.other2 (by omega) _ _
            replace hQ : Box2 U (w1.heap.size + 1) (.int .i64 (hi (a.tmod b + b))) (.int .u64 (lo (a.tmod b + b))) 38 := by rw [hU]; exact hQ.set _ _
            replace xw : Ext w U := by rw [hU]; exact Ext.set (Ext.set xw (by omega)) (by omega)
            rw [← hU]
            clear hU
            have n1 : ¬ w1.heap.size = w.heap.size + 1 + 1 := by omega
            have n2 : ¬ w1.heap.size = w.heap.size + 1 + 1 + 1 := by omega
            have n3 : ¬ w1.heap.size + 1 = w.heap.size + 1 + 1 := by omega
            have n4 : ¬ w1.heap.size + 1 = w.heap.size + 1 + 1 + 1 := by omega
            have n5 : ¬ w.heap.size + 1 + 1 = w1.heap.size := by omega
            have n6 : ¬ w.heap.size + 1 + 1 + 1 = w1.heap.size := by omega
            have n7 : ¬ w.heap.size + 1 = w1.heap.size := by omega
            have n8 : ¬ w.heap.size + 1 + 1 = w1.heap.size + 1 := by omega
            have n9 : ¬ w1.heap.size = w.heap.size + 1 := by omega
            have hP_0 := hP.c0; have hP_1 := hP.c1; have hQ_0 := hQ.c0; have hQ_1 := hQ.c1; have hR_0 := hR.c0; have hR_1 := hR.c1; have hS_0 := hS.c0; have hS_1 := hS.c1
            have hR_2 := hR.f0; have hR_3 := hR.f1; have hS_2 := hS.f0; have hS_3 := hS.f1
            go_region
            go_wp2_with fail
            refine bodyPost_ret (v := .tuple #[.agg #[.int .i64 (hi (a.tdiv b - 1)), .int .u64 (lo (a.tdiv b - 1))], .agg #[.int .i64 (hi (a.tmod b + b)), .int .u64 (lo (a.tmod b + b))], .int .i64 0]) (by simp [results, Try.results178, go_sem, hR_0, hR_1, hS_0, hS_1]) rfl (retQ_yes hq1 ?_)
            exact Ext.drew (Ext.set (Ext.set (Ext.set (Ext.set xw (by omega)) (by omega)) (by omega)) (by omega))
  · have hr := trunc_room ha h0 hq
    obtain ⟨e1, e2⟩ := floor_same h0 (Or.inl hr)
    have hno : ¬ W128 (a.fdiv b) := by rw [e1]; exact hq
    clear e1 e2 hr
    go_enter Try.func178, Try.ntmps178
    go_wp2_with fail
    obtain ⟨W, hW⟩ : ∃ W, W = (((w.alloc (.cells #[.int .i64 (hi a), .int .u64 (lo a)] 38)).alloc (.cells #[.int .i64 (hi b), .int .u64 (lo b)] 38)).alloc (.cells #[.int .i64 0, .int .u64 0] 38)).alloc (.cells #[.int .i64 0, .int .u64 0] 38) := ⟨_, rfl⟩
    rw [← hW]
    have hB : Box2 W (w.heap.size + 1) (.int .i64 (hi b)) (.int .u64 (lo b)) 38 := by rw [hW]; exact ((Box2.new (by simp)).alloc _).alloc _
    have hR : Box2 W (w.heap.size + 1 + 1) (.int .i64 0) (.int .u64 0) 38 := by rw [hW]; exact (Box2.new (by simp)).alloc _
    have hS : Box2 W (w.heap.size + 1 + 1 + 1) (.int .i64 0) (.int .u64 0) 38 := by rw [hW]; exact Box2.new (by simp)
    have xw : Ext w W := by rw [hW]; exact (Ext.refl w).alloc.alloc.alloc.alloc
    clear hW
    refine (H1.out _).mono ?_
    rintro e w1 ⟨rfl, x1⟩
    (first | replace xw := Ext.trans xw x1 | replace xw := Ext.trans (Ext.alloc xw) x1 | replace xw := Ext.trans (Ext.drew xw) x1 | replace xw := Ext.trans (Ext.alloc (Ext.drew xw)) x1); (first | replace hB := hB.ext x1 | replace hB := (hB.alloc _).ext x1 | replace hB := hB.drew.ext x1 | replace hB := (hB.drew.alloc _).ext x1); (first | replace hR := hR.ext x1 | replace hR := (hR.alloc _).ext x1 | replace hR := hR.drew.ext x1 | replace hR := (hR.drew.alloc _).ext x1); (first | replace hS := hS.ext x1 | replace hS := (hS.alloc _).ext x1 | replace hS := hS.drew.ext x1 | replace hS := (hS.drew.alloc _).ext x1)
    have y1 := hS.kind.lt
    rw [thi_no hq, tlo_no hq, ter_no hq, show qh (a.tdiv b) (a.tmod b) = 0 from if_neg hq, show ql (a.tdiv b) (a.tmod b) = 0 from if_neg hq]
    replace hR := (hR.alloc (.cells #[.int .i64 0, .int .u64 0] 38)).alloc (.cells #[.int .i64 0, .int .u64 0] 38)
    replace hS := (hS.alloc (.cells #[.int .i64 0, .int .u64 0] 38)).alloc (.cells #[.int .i64 0, .int .u64 0] 38)
    have hR_0 := hR.c0; have hR_1 := hR.c1; have hS_0 := hS.c0; have hS_1 := hS.c1
    have hR_2 := hR.f0; have hR_3 := hR.f1; have hS_2 := hS.f0; have hS_3 := hS.f1
    go_wp2_with fail
    refine bodyPost_ret (v := .tuple #[.agg #[.int .i64 0, .int .u64 0], .agg #[.int .i64 0, .int .u64 0], .int .i64 2]) (by simp [results, Try.results178, go_sem, hR_0, hR_1, hS_0, hS_1]) rfl (retQ_no hno ?_)
    exact Ext.set (Ext.set (Ext.set (Ext.set (Ext.alloc (Ext.alloc xw)) (by omega)) (by omega)) (by omega)) (by omega)
end Go.Proofs.Ytcndfpfjckkinaa

/-
  divide.By.
-/
namespace Go.Proofs.Ytcndfpfjckkinaa
open Go Go.RowKit

theorem by_math {a n : Int} (ha : W128 a) (hn : 0 < n) : W128 (a.fdiv n) ∧ 0 ≤ a.fmod n ∧ a.fmod n < n := by
  have e1 := Int.fdiv_eq_ediv_of_nonneg a (show 0 ≤ n by omega)
  have e2 := Int.fmod_eq_emod_of_nonneg a (show 0 ≤ n by omega)
  rw [e1, e2]
  have h1 := Int.emod_nonneg a (show n ≠ 0 by omega)
  have h2 := Int.emod_lt_of_pos a hn
  refine ⟨?_, h1, h2⟩
  unfold W128 at *
  by_cases h : 0 ≤ a
  · have := Int.ediv_le_self n h
    have := Int.ediv_nonneg h (show 0 ≤ n by omega)
    omega
  · have h3 : a ≤ a / n := by
      refine Int.le_ediv_of_mul_le hn ?_
      have := Int.mul_le_mul_of_nonpos_left (show a ≤ 0 by omega) (show 1 ≤ n by omega)
      omega
    have h4 : a / n < 0 := Int.ediv_neg_of_neg_of_pos (by omega) hn
    omega
theorem floor_small (a n : Int) (w : World) (ha : W128 a) (hn : 0 < n) (hI : I64 n) :
    Calls Try.prog 178 #[.agg #[.int .i64 (hi a), .int .u64 (lo a)], .agg #[.int .i64 (hi n), .int .u64 (lo n)]] w (RetQ w (a.fdiv n) (a.fmod n)) := by
  refine dfloor a n w ha hI.w (by omega) (fun w => dtrunc a n w ha hI.w (by omega) (fun w => ?_))
  have h1 : mag n = n := mag_pos (by omega)
  have h2 : n < 18446744073709551616 := by unfold I64 at hI; omega
  have h3 : lo n = n ∧ hi n = 0 := by have := small_hl (x := n) (by omega) h2; exact ⟨this.2, this.1⟩
  rw [h1]
  exact over_small (mag a) n w (mag_U ha) hn h2
def ByP (w : World) (a n : Int) (e : Ending) (w' : World) : Prop := e = .returned (.tuple #[.agg #[.int .i64 (hi (a.fdiv n)), .int .u64 (lo (a.fdiv n))], .int .i64 (a.fmod n), .int .i64 0]) ∧ Ext w w'

set_option maxRecDepth 100000 in
set_option maxHeartbeats 3200000 in
theorem dby (a n : Int) (w : World) (ha : W128 a) (hn : 0 < n) (hI : I64 n) :
    Calls Try.prog 120 #[.agg #[.int .i64 (hi a), .int .u64 (lo a)], .int .i64 n] w (ByP w a n) := by
  have H1 := Lib.hid of_pure
  have H2 := Lib.hid floor_small
  obtain ⟨hq, r0, r1⟩ := by_math ha hn
  obtain ⟨n0, n1⟩ := hI
  have hr : lo (a.fmod n) = a.fmod n ∧ hi (a.fmod n) = 0 := by have := small_hl (x := a.fmod n) r0 (by omega); exact ⟨this.2, this.1⟩
  have HR := Lib.hid hr
  have hn' : ¬ n ≤ 0 := by omega
  clear hr
  go_enter Try.func120, Try.ntmps120
  go_wp2_with fail
  obtain ⟨W, hW⟩ : ∃ W, W = (w.alloc (.cells #[.int .i64 (hi a), .int .u64 (lo a)] 38)).alloc (.cells #[.int .i64 0, .int .u64 0] 38) := ⟨_, rfl⟩
  rw [← hW]
  have hA : Box2 W w.heap.size (.int .i64 (hi a)) (.int .u64 (lo a)) 38 := by rw [hW]; exact (Box2.new rfl).alloc _
  have hR : Box2 W (w.heap.size + 1) (.int .i64 0) (.int .u64 0) 38 := by rw [hW]; exact Box2.new (by simp)
  have xw : Ext w W := by rw [hW]; exact (Ext.refl w).alloc.alloc
  have sW : W.heap.size = w.heap.size + 2 := by rw [hW]; simp
  have SW := Lib.hid sW
  clear hW sW
  go_cut [7, 8] (fun s7 s8 wx => ∃ (k7 k8 : Nat), s7 = .pointer (some ⟨k7, 0, none⟩) ∧ s8 = .pointer (some ⟨k8, 0, none⟩) ∧ w.heap.size + 2 ≤ k7 ∧ w.heap.size + 2 ≤ k8 ∧ Box2 wx k7 (.int .i64 (hi (a.fdiv n))) (.int .u64 (lo (a.fdiv n))) 38 ∧
    Box2 wx k8 (.int .i64 (hi (a.fmod n))) (.int .u64 (lo (a.fmod n))) 38 ∧ Box2 wx (w.heap.size + 1) (.int .i64 0) (.int .u64 0) 38 ∧ Ext w wx)
  case first =>
    refine wp_region_noPanic ?_
    refine wp_region_held_drew (S := fun w' => Ext W w') (by kernel_rfl) (Ext.refl W).drew (fun hHeld => ?_)
    have c0 := fun w' (h : Ext W w') => (hA.ext h).c0
    have c1 := fun w' (h : Ext W w') => (hA.ext h).c1
    refine wpAnyH_take (i := 0) (v := .agg #[.int .i64 (hi a), .int .u64 (lo a)]) rfl (by kernel_rfl) (by kernel_rfl) (by kernel_rfl) (fun _ _ _ h => h) (Or.inl ⟨by kernel_rfl, fun w' h => (by go_simp)⟩) hHeld ?_
    refine wpAnyH_take (i := 1) (v := .int .i64 n) rfl (by kernel_rfl) (by kernel_rfl) (by kernel_rfl) (fun _ _ _ h => h) (Or.inl ⟨by kernel_rfl, fun w' h => (by go_simp)⟩) hHeld ?_
    refine region2 (N := 13) (f0 := [0, 1]) (l := [(2, false), (3, false), (4, true), (5, true), (6, true), (7, true)]) (T := [10, 11, 12]) (iA := 8) (dA := 7) (iB := 9) (dB := 8) (oA := .cells #[.int .i64 0, .int .u64 0] 38) (oB := .cells #[.int .i64 0, .int .u64 0] 38) (fun _ _ _ _ _ h => h) (by kernel_rfl) (by kernel_rfl) rfl (by kernel_rfl) (by kernel_rfl)
      (fun K a w h => wpOp_of rfl fun K' hK => (by go_simp; exact hK _ _ h)) (fun K a w h => wpOp_of rfl fun K' hK => (by go_simp; exact hK _ _ h)) (by decide) (by simp [Act.put]) (by simp [Act.put]) (fun _ _ h x => h.trans x) hHeld ?_
    intro a1 v1 h1 y1; obtain ⟨s7, s8, rfl⟩ := away2 h1; refine wpOp_of rfl fun K' hK => ?_; go_simp
    refine (H1.out n _ n0 n1).mono ?_
    rintro e w1 ⟨rfl, hb1⟩
    refine hK _ _ ⟨⟨hb1, rfl, slots2 rfl rfl⟩, ?_⟩; clear hK K'
    intro a1 v2 h1 y2; obtain ⟨s7, s8, rfl⟩ := away2 h1; refine wpOp_of rfl fun K' hK => ?_; go_simp
    refine (H2.out a n _ ha hn ⟨n0, n1⟩).mono ?_
    unfold RetQ
    rw [thi_yes hq, tlo_yes hq, ter_yes hq, show qh (a.fdiv n) (a.fmod n) = hi (a.fmod n) from if_pos hq, show ql (a.fdiv n) (a.fmod n) = lo (a.fmod n) from if_pos hq]
    rintro e w3 ⟨rfl, hb2⟩
    refine hK _ _ ⟨⟨hb2, rfl, slots2 rfl rfl⟩, ?_⟩; clear hK K'
    have x4 : Ext W w3 := Ext.trans (Ext.trans (Ext.trans (Ext.trans (Ext.refl W).drew y1) hb1) y2) hb2
    refine ⟨_, .tuple #[.agg #[.int .i64 (hi (a.fdiv n)), .int .u64 (lo (a.fdiv n))], .agg #[.int .i64 (hi (a.fmod n)), .int .u64 (lo (a.fmod n))], .int .i64 0], rfl, Or.inl ⟨by rfl, fun w' h => (by go_simp)⟩, by simp, ?_⟩
    refine ⟨_, .agg #[.int .i64 (hi (a.fdiv n)), .int .u64 (lo (a.fdiv n))], rfl, Or.inl ⟨by rfl, fun w' h => (by go_simp)⟩, by simp, ?_⟩
    refine ⟨_, .agg #[.int .i64 (hi (a.fmod n)), .int .u64 (lo (a.fmod n))], rfl, Or.inl ⟨by rfl, fun w' h => (by go_simp)⟩, by simp, ?_⟩
    refine ⟨_, .int .i64 0, rfl, Or.inl ⟨by rfl, fun w' h => (by go_simp)⟩, by simp, ?_⟩
    intro a' w' h y
    obtain ⟨s6, s7, rfl⟩ := away2 h
    rintro k k' ⟨hk1, hk2, hk3⟩ ⟨hl1, hl2, hl3⟩ hne hS'
    simp [Act.put] at hk2 hl2
    subst hk2 hl2
    have hk1' : w.heap.size + 2 ≤ k := by rw [← SW.out]; exact hk1
    have hl1' : w.heap.size + 2 ≤ k' := by rw [← SW.out]; exact hl1
    have hkb : Box2 w' k (.int .i64 0) (.int .u64 0) 38 := hk3
    have hlb : Box2 w' k' (.int .i64 0) (.int .u64 0) 38 := hl3
    have k0 := hkb.c0
    have k1 := hkb.c1
    have k2 := hkb.f0
    have k3 := hkb.f1
    have hBq := hkb.set (.int .i64 (hi (a.fdiv n))) (.int .u64 (lo (a.fdiv n)))
    have hBr := hlb.other2 (Ne.symm hne) (.int .i64 (hi (a.fdiv n))) (.int .u64 (lo (a.fdiv n)))
    have hSq : Ext W ((w'.setCell ⟨k, 0, none⟩ (.int .i64 (hi (a.fdiv n)))).setCell ⟨k, 1, none⟩ (.int .u64 (lo (a.fdiv n)))) := (hS'.set hk1).set hk1
    have l0 := hBr.c0
    have l1 := hBr.c1
    have l2 := hBr.f0
    have l3 := hBr.f1
    refine wpOp_of rfl fun K' hK => ?_
    go_simp
    refine hK _ _ ⟨hSq, ?_⟩
    clear hK K'
    refine wpOp_of rfl fun K' hK => ?_
    go_simp
    refine hK _ _ ⟨(hSq.set hl1).set hl1, ?_⟩
    clear hK K'
    refine wpOp_of rfl fun K' hK => ?_
    go_simp
    refine hK _ _ ⟨(hSq.set hl1).set hl1, ?_⟩
    clear hK K'
    refine NoPanic.normal ?_
    go_wp2_with fail
    go_meet
    exact ⟨k, k', rfl, rfl, hk1', hl1', hBq.other2 hne _ _, hBr.set _ _, hR.ext ((hSq.set hl1).set hl1), xw.trans ((hSq.set hl1).set hl1)⟩
  case rest =>
    obtain ⟨k7, k8, rfl, rfl, z7, z8, hQ, hT, hR, xw⟩ := hcut
    rw [HR.out.1] at hT
    have n7 : ¬ k7 = w.heap.size + 1 := by omega
    have n8 : ¬ k8 = w.heap.size + 1 := by omega
    have n9 : ¬ w.heap.size + 1 = k7 := by omega
    have n10 : ¬ w.heap.size + 1 = k8 := by omega
    clear hA SW
    have hQ_0 := hQ.c0; have hQ_1 := hQ.c1; have hT_0 := hT.c0; have hT_1 := hT.c1; have hR_0 := hR.c0; have hR_1 := hR.c1
    have hR_2 := hR.f0; have hR_3 := hR.f1
    go_wp2_with fail
    go_region
    go_wp2_with fail
    refine bodyPost_ret (v := .tuple #[.agg #[.int .i64 (hi (a.fdiv n)), .int .u64 (lo (a.fdiv n))], .int .i64 (a.fmod n), .int .i64 0]) (by simp [results, Try.results120, go_sem, hR_0, hR_1]) rfl ⟨rfl, ?_⟩
    exact Ext.drew (Ext.set (Ext.set xw (by omega)) (by omega))
end Go.Proofs.Ytcndfpfjckkinaa

/-
  divide.Gcd.
-/
namespace Go.Proofs.Ytcndfpfjckkinaa
open Go Go.RowKit

/-- The number that the two cells of block k hold. -/
def held (k : Nat) (w : World) : Nat :=
  match w.cell? ⟨k, 0, none⟩, w.cell? ⟨k, 1, none⟩ with
  | some (.int _ h), some (.int _ l) => (h * 18446744073709551616 + l).toNat
  | _, _ => 0
theorem held_box {w : World} {k : Nat} {t : TypeId} {n : Nat} (h : Box2 w k (.int .u64 (hi n)) (.int .u64 (lo n)) t) : held k w = n := by
  unfold held
  rw [h.c0, h.c1]
  show ((hi n) * 18446744073709551616 + lo n).toNat = n
  rw [← hi_lo]
  exact Int.toNat_natCast n
theorem gcd_step (b c : Nat) : Nat.gcd b c = Nat.gcd c (b % c) := by rw [Nat.gcd_comm, Nat.gcd_rec, Nat.gcd_comm]
/-- over is right at all numbers up to M. -/
def OverTo (M : Nat) : Prop := ∀ b d : Nat, b ≤ M → 0 < d → d ≤ M → OverC (b : Int) (d : Int)

set_option maxRecDepth 100000 in
set_option maxHeartbeats 1600000 in
theorem dgcd (M b0 c0 : Nat) (w : World) (hb : b0 ≤ M) (hc : c0 ≤ M) (ho : OverTo M) :
    Calls Try.prog 209 #[.agg #[.int .u64 (hi b0), .int .u64 (lo b0)], .agg #[.int .u64 (hi c0), .int .u64 (lo c0)]] w
      (fun e w' => e = .returned (.agg #[.int .u64 (hi ((Nat.gcd b0 c0 : Nat) : Int)), .int .u64 (lo ((Nat.gcd b0 c0 : Nat) : Int))]) ∧ Ext w w') := by
  have H1 := Lib.hid ho
  clear ho
  go_enter Try.func209, Try.ntmps209
  go_wp2_with fail
  obtain ⟨W, hW⟩ : ∃ W, W = ((w.alloc (.cells #[.int .u64 (hi b0), .int .u64 (lo b0)] 213)).alloc (.cells #[.int .u64 (hi c0), .int .u64 (lo c0)] 213)).alloc (.cells #[.int .u64 0, .int .u64 0] 213) := ⟨_, rfl⟩
  rw [← hW]
  have hB : Box2 W w.heap.size (.int .u64 (hi b0)) (.int .u64 (lo b0)) 213 := by rw [hW]; exact ((Box2.new rfl).alloc _).alloc _
  have hC : Box2 W (w.heap.size + 1) (.int .u64 (hi c0)) (.int .u64 (lo c0)) 213 := by rw [hW]; exact (Box2.new (by simp)).alloc _
  have hR : Box2 W (w.heap.size + 1 + 1) (.int .u64 0) (.int .u64 0) 213 := by rw [hW]; exact Box2.new (by simp)
  have xw : Ext w W := by rw [hW]; exact (Ext.refl w).alloc.alloc.alloc
  clear hW
  go_loopw [5] (fun _ wr => ∃ k c : Nat, k ≤ M ∧ c ≤ M ∧ Nat.gcd k c = Nat.gcd b0 c0 ∧ Box2 wr w.heap.size (.int .u64 (hi k)) (.int .u64 (lo k)) 213 ∧
    Box2 wr (w.heap.size + 1) (.int .u64 (hi c)) (.int .u64 (lo c)) 213 ∧ Box2 wr (w.heap.size + 1 + 1) (.int .u64 0) (.int .u64 0) 213 ∧ Ext w wr) (fun _ wr => held (w.heap.size + 1) wr)
  case atStart => exact ⟨b0, c0, hb, hc, rfl, hB, hC, hR, xw⟩
  case round =>
    clear hB hC hR xw hb hc
    obtain ⟨k, c, hk, hc, hg, hB, hC, hR, xw⟩ := hrel
    have HG := Lib.hid hg
    have hm := Lib.hid (held_box hC)
    clear hg
    have hB_0 := hB.c0; have hB_1 := hB.c1; have hC_0 := hC.c0; have hC_1 := hC.c1
    by_cases hc0 : c = 0
    · have g1 : (hi (c : Int) == 0) = true := by subst hc0; rfl
      have g2 : (lo (c : Int) == 0) = true := by subst hc0; rfl
      have HC0 := Lib.hid hc0
      clear hc0
      have hR_0 := hR.c0; have hR_1 := hR.c1
      have hR_2 := hR.f0; have hR_3 := hR.f1
      go_wp2_with fail
      have hgk : Nat.gcd b0 c0 = k := by rw [← HG.out, HC0.out, Nat.gcd_zero_right]
      refine bodyPost_ret (v := .agg #[.int .u64 (hi (k : Int)), .int .u64 (lo (k : Int))]) (by simp [results, Try.results209, go_sem, hR_0, hR_1]) rfl ⟨by rw [hgk], Ext.set (Ext.set xw (by omega)) (by omega)⟩
    · by_cases hz : hi (c : Int) = 0
      · have g1 : (hi (c : Int) == 0) = true := by simpa using hz
        have g2 : (lo (c : Int) == 0) = false := by
          simp only [beq_eq_false_iff_ne, ne_eq]; intro h; have := hi_lo (c : Int); omega
        clear hz
        obtain ⟨q, hq⟩ : ∃ q : Nat, q = k / c := ⟨_, rfl⟩
        obtain ⟨r, hr⟩ : ∃ r : Nat, r = k % c := ⟨_, rfl⟩
        have hrc : r < c := by rw [hr]; exact Nat.mod_lt _ (by omega)
        have HQ := Lib.hid (show ((k : Int) / (c : Int)) = (q : Int) by rw [hq]; omega)
        have HS := Lib.hid (show ((k : Int) % (c : Int)) = (r : Int) by rw [hr]; omega)
        have HN := Lib.hid (show Nat.gcd c r = Nat.gcd b0 c0 by rw [hr, ← gcd_step, HG.out])
        clear hq hr
        go_wp2_with fail
        refine (H1.out k c hk (by omega) hc _).mono ?_
        rw [HQ.out, HS.out]
        rintro e w1 ⟨rfl, x1⟩
        clear hB_0 hB_1 hC_0 hC_1
        (first | replace xw := Ext.trans xw x1 | replace xw := Ext.trans (Ext.alloc xw) x1 | replace xw := Ext.trans (Ext.drew xw) x1 | replace xw := Ext.trans (Ext.alloc (Ext.drew xw)) x1); (first | replace hB := hB.ext x1 | replace hB := (hB.alloc _).ext x1 | replace hB := hB.drew.ext x1 | replace hB := (hB.drew.alloc _).ext x1); (first | replace hC := hC.ext x1 | replace hC := (hC.alloc _).ext x1 | replace hC := hC.drew.ext x1 | replace hC := (hC.drew.alloc _).ext x1); (first | replace hR := hR.ext x1 | replace hR := (hR.alloc _).ext x1 | replace hR := hR.drew.ext x1 | replace hR := (hR.drew.alloc _).ext x1)
        have y1 := hR.kind.lt
        obtain ⟨V, hV⟩ : ∃ V, V = (w1.alloc (.cells #[.int .u64 (hi (q : Int)), .int .u64 (lo (q : Int))] 213)).alloc (.cells #[.int .u64 (hi (r : Int)), .int .u64 (lo (r : Int))] 213) := ⟨_, rfl⟩
        have hT : Box2 V (w1.heap.size + 1) (.int .u64 (hi (r : Int))) (.int .u64 (lo (r : Int))) 213 := by rw [hV]; exact Box2.new (by simp)
        replace hB := hB.named2 hV
        replace hC := hC.named2 hV
        replace hR := hR.named2 hV
        replace xw : Ext w V := by rw [hV]; exact Ext.alloc (Ext.alloc xw)
        go_wp2_with fail
        rw [← hV]
        clear hV x1
        have n1 : ¬ w1.heap.size + 1 = w.heap.size := by omega
        have n2 : ¬ w.heap.size = w1.heap.size + 1 := by omega
        have n3 : ¬ w1.heap.size = w.heap.size := by omega
        have n4 : ¬ w.heap.size = w1.heap.size := by omega
        have hB_0 := hB.c0; have hB_1 := hB.c1; have hC_0 := hC.c0; have hC_1 := hC.c1; have hT_0 := hT.c0; have hT_1 := hT.c1
        have hB_2 := hB.f0; have hB_3 := hB.f1; have hC_2 := hC.f0; have hC_3 := hC.f1
        go_region
        have f1 := (hB.set (.int .u64 (hi (c : Int))) (.int .u64 (lo (c : Int)))).other2 (b := w.heap.size + 1) (by omega) (.int .u64 (hi (r : Int))) (.int .u64 (lo (r : Int)))
        have f2 := (hC.other2 (b := w.heap.size) (by omega) (.int .u64 (hi (c : Int))) (.int .u64 (lo (c : Int)))).set (.int .u64 (hi (r : Int))) (.int .u64 (lo (r : Int)))
        have f3 := (hR.other2 (b := w.heap.size) (by omega) (.int .u64 (hi (c : Int))) (.int .u64 (lo (c : Int)))).other2 (b := w.heap.size + 1) (by omega) (.int .u64 (hi (r : Int))) (.int .u64 (lo (r : Int)))
        have f4 : Ext w ((((V.setCell ⟨w.heap.size, 0, none⟩ (.int .u64 (hi (c : Int)))).setCell ⟨w.heap.size, 1, none⟩ (.int .u64 (lo (c : Int)))).setCell ⟨w.heap.size + 1, 0, none⟩ (.int .u64 (hi (r : Int)))).setCell ⟨w.heap.size + 1, 1, none⟩ (.int .u64 (lo (r : Int)))) := Ext.set (Ext.set (Ext.set (Ext.set xw (by omega)) (by omega)) (by omega)) (by omega)
        go_wp2_with fail
        go_roundw
        case rel => exact ⟨c, r, hc, by omega, HN.out, f1.drew, f2.drew, f3.drew, f4.drew⟩
        case measure => rw [hm.out, held_box f2.drew]; exact hrc
      · have g1 : (hi (c : Int) == 0) = false := by simpa using hz
        clear hz
        obtain ⟨q, hq⟩ : ∃ q : Nat, q = k / c := ⟨_, rfl⟩
        obtain ⟨r, hr⟩ : ∃ r : Nat, r = k % c := ⟨_, rfl⟩
        have hrc : r < c := by rw [hr]; exact Nat.mod_lt _ (by omega)
        have HQ := Lib.hid (show ((k : Int) / (c : Int)) = (q : Int) by rw [hq]; omega)
        have HS := Lib.hid (show ((k : Int) % (c : Int)) = (r : Int) by rw [hr]; omega)
        have HN := Lib.hid (show Nat.gcd c r = Nat.gcd b0 c0 by rw [hr, ← gcd_step, HG.out])
        clear hq hr
        go_wp2_with fail
        refine (H1.out k c hk (by omega) hc _).mono ?_
        rw [HQ.out, HS.out]
        rintro e w1 ⟨rfl, x1⟩
        clear hB_0 hB_1 hC_0 hC_1
        (first | replace xw := Ext.trans xw x1 | replace xw := Ext.trans (Ext.alloc xw) x1 | replace xw := Ext.trans (Ext.drew xw) x1 | replace xw := Ext.trans (Ext.alloc (Ext.drew xw)) x1); (first | replace hB := hB.ext x1 | replace hB := (hB.alloc _).ext x1 | replace hB := hB.drew.ext x1 | replace hB := (hB.drew.alloc _).ext x1); (first | replace hC := hC.ext x1 | replace hC := (hC.alloc _).ext x1 | replace hC := hC.drew.ext x1 | replace hC := (hC.drew.alloc _).ext x1); (first | replace hR := hR.ext x1 | replace hR := (hR.alloc _).ext x1 | replace hR := hR.drew.ext x1 | replace hR := (hR.drew.alloc _).ext x1)
        have y1 := hR.kind.lt
        obtain ⟨V, hV⟩ : ∃ V, V = (w1.alloc (.cells #[.int .u64 (hi (q : Int)), .int .u64 (lo (q : Int))] 213)).alloc (.cells #[.int .u64 (hi (r : Int)), .int .u64 (lo (r : Int))] 213) := ⟨_, rfl⟩
        have hT : Box2 V (w1.heap.size + 1) (.int .u64 (hi (r : Int))) (.int .u64 (lo (r : Int))) 213 := by rw [hV]; exact Box2.new (by simp)
        replace hB := hB.named2 hV
        replace hC := hC.named2 hV
        replace hR := hR.named2 hV
        replace xw : Ext w V := by rw [hV]; exact Ext.alloc (Ext.alloc xw)
        go_wp2_with fail
        rw [← hV]
        clear hV x1
        have n1 : ¬ w1.heap.size + 1 = w.heap.size := by omega
        have n2 : ¬ w.heap.size = w1.heap.size + 1 := by omega
        have n3 : ¬ w1.heap.size = w.heap.size := by omega
        have n4 : ¬ w.heap.size = w1.heap.size := by omega
        have hB_0 := hB.c0; have hB_1 := hB.c1; have hC_0 := hC.c0; have hC_1 := hC.c1; have hT_0 := hT.c0; have hT_1 := hT.c1
        have hB_2 := hB.f0; have hB_3 := hB.f1; have hC_2 := hC.f0; have hC_3 := hC.f1
        go_region
        have f1 := (hB.set (.int .u64 (hi (c : Int))) (.int .u64 (lo (c : Int)))).other2 (b := w.heap.size + 1) (by omega) (.int .u64 (hi (r : Int))) (.int .u64 (lo (r : Int)))
        have f2 := (hC.other2 (b := w.heap.size) (by omega) (.int .u64 (hi (c : Int))) (.int .u64 (lo (c : Int)))).set (.int .u64 (hi (r : Int))) (.int .u64 (lo (r : Int)))
        have f3 := (hR.other2 (b := w.heap.size) (by omega) (.int .u64 (hi (c : Int))) (.int .u64 (lo (c : Int)))).other2 (b := w.heap.size + 1) (by omega) (.int .u64 (hi (r : Int))) (.int .u64 (lo (r : Int)))
        have f4 : Ext w ((((V.setCell ⟨w.heap.size, 0, none⟩ (.int .u64 (hi (c : Int)))).setCell ⟨w.heap.size, 1, none⟩ (.int .u64 (lo (c : Int)))).setCell ⟨w.heap.size + 1, 0, none⟩ (.int .u64 (hi (r : Int)))).setCell ⟨w.heap.size + 1, 1, none⟩ (.int .u64 (lo (r : Int)))) := Ext.set (Ext.set (Ext.set (Ext.set xw (by omega)) (by omega)) (by omega)) (by omega)
        go_wp2_with fail
        go_roundw
        case rel => exact ⟨c, r, hc, by omega, HN.out, f1.drew, f2.drew, f3.drew, f4.drew⟩
        case measure => rw [hm.out, held_box f2.drew]; exact hrc

theorem gcd_to {M b c : Nat} (hb : b ≤ M) (hc : c ≤ M) : Nat.gcd b c ≤ M := by
  by_cases h : b = 0
  · subst h; rw [Nat.gcd_zero_left]; exact hc
  · exact Nat.le_trans (Nat.gcd_le_left c (by omega)) hb
theorem over_to (M : Nat) (h : M < 18446744073709551616) : OverTo M := by
  intro b d hb hd hd'
  exact fun w => over_small b d w (by unfold U128; omega) (by omega) (by omega)
end Go.Proofs.Ytcndfpfjckkinaa

/-
  The reference's Told and Floor of layer 3.
-/
namespace Go.Proofs.Ytcndfpfjckkinaa
open Go Go.RowKit

theorem IsZ.named2 {V w : World} {neg : Bool} {sv : Value} {n : Int} {o o' : Obj} (h : IsZ w neg sv n) (e : V = (w.alloc o).alloc o') : IsZ V neg sv n := by rw [e]; exact (h.alloc o).alloc o'
theorem fmod_W {a b : Int} (hb : W128 b) (h0 : b ≠ 0) : W128 (a.fmod b) := by
  by_cases h : 0 < b
  · have h1 := Int.fmod_eq_emod_of_nonneg a (show 0 ≤ b by omega)
    have := Int.emod_nonneg a h0
    have := Int.emod_lt_of_pos a h
    unfold W128 at *; omega
  · obtain ⟨k1, k2, k3⟩ := tdm (a := a) h0
    by_cases hs : a.tmod b = 0 ∨ (a.tmod b < 0 ↔ b < 0)
    · rw [(floor_same h0 hs).2]; exact tmod_W hb h0
    · rw [(floor_less h0 (fun e => hs (Or.inl e)) (fun e => hs (Or.inr e))).2]
      unfold W128 at *; omega
theorem fdiv_bits {a b : Int} (ha : W128 a) (h0 : b ≠ 0) : Bits 129 (a.fdiv b) := by
  have e := tdiv_nat (a := a) (b := b)
  have h1 : a.natAbs / b.natAbs ≤ a.natAbs := Nat.div_le_self _ _
  by_cases hs : a.tmod b = 0 ∨ (a.tmod b < 0 ↔ b < 0)
  · rw [(floor_same h0 hs).1]; unfold Bits; unfold W128 at ha; omega
  · rw [(floor_less h0 (fun e => hs (Or.inl e)) (fun e => hs (Or.inr e))).1]; unfold Bits; unfold W128 at ha; omega

end Go.Proofs.Ytcndfpfjckkinaa

/-
  What every right program answers: alive of layer 3.
-/
namespace Go.Proofs.Ytcndfpfjckkinaa
open Go Go.RowKit

theorem s3c {w : World} {k k' k'' : Nat} {u v u' v' u'' v'' : Value} {t t' t'' : TypeId} (h : Box2 w k u v t) (h' : Box2 w k' u' v' t') (h'' : Box2 w k'' u'' v'' t'') :
    w.cell? ⟨k, 0, none⟩ = some u ∧ w.cell? ⟨k, 1, none⟩ = some v ∧ w.cell? ⟨k', 0, none⟩ = some u' ∧ w.cell? ⟨k', 1, none⟩ = some v' ∧ w.cell? ⟨k'', 0, none⟩ = some u'' ∧ w.cell? ⟨k'', 1, none⟩ = some v'' := ⟨h.c0, h.c1, h'.c0, h'.c1, h''.c0, h''.c1⟩
theorem liv_floor (w : World) : Calls Try.prog 178 #[.agg #[.int .i64 (hi (-7)), .int .u64 (lo (-7))], .agg #[.int .i64 (hi 2), .int .u64 (lo 2)]] w
    (fun e w' => e = .returned (.tuple #[.agg #[.int .i64 (hi (-4)), .int .u64 (lo (-4))], .agg #[.int .i64 (hi 1), .int .u64 (lo 1)], .int .i64 0]) ∧ Ext w w') := by
  have h := floor_small (-7) 2 w (by unfold W128; omega) (by omega) (by unfold I64; omega)
  have hW : W128 (-4) := by unfold W128; omega
  unfold RetQ at h
  rw [show (-7 : Int).fdiv 2 = -4 from by decide, show (-7 : Int).fmod 2 = 1 from by decide, thi_yes hW, tlo_yes hW, ter_yes hW, show qh (-4) 1 = hi 1 from if_pos hW, show ql (-4) 1 = lo 1 from if_pos hW] at h
  exact h
end Go.Proofs.Ytcndfpfjckkinaa

/-
  The law DivideBys, walked.
-/
namespace Go.Proofs.Ytcndfpfjckkinaa
open Go Go.RowKit

set_option maxRecDepth 100000 in
set_option maxHeartbeats 1600000 in
theorem dby_no (a n : Int) (w : World) (hn : n ≤ 0) :
    Calls Try.prog 120 #[.agg #[.int .i64 (hi a), .int .u64 (lo a)], .int .i64 n] w (fun e w' => e = .returned (.tuple #[.agg #[.int .i64 0, .int .u64 0], .int .i64 0, .int .i64 1]) ∧ Ext w w') := by
  go_enter Try.func120, Try.ntmps120
  go_wp2_with fail
  refine bodyPost_ret (v := .tuple #[.agg #[.int .i64 0, .int .u64 0], .int .i64 0, .int .i64 1]) (by simp [results, Try.results120, go_sem]) rfl ⟨rfl, ?_⟩
  exact (by repeat (first | exact Ext.refl _ | refine Ext.alloc ?_ | refine Ext.drew ?_ | refine Ext.drewN ?_ | refine Ext.set ?_ (Ext.size ?_) | refine Ext.set ?_ (Ext.size1 ?_) | refine Ext.set ?_ (Ext.size2 ?_) | refine Ext.trans ?_ (by assumption)))
theorem s3d {w : World} {k k' k'' : Nat} {u v u' v' u'' v'' : Value} {t t' t'' : TypeId} (h : Box2 w k u v t) (h' : Box2 w k' u' v' t') (h'' : Box2 w k'' u'' v'' t'') :
    w.cell? ⟨k, 0, none⟩ = some u ∧ w.cell? ⟨k, 1, none⟩ = some v ∧ w.cell? ⟨k', 0, none⟩ = some u' ∧ w.cell? ⟨k', 1, none⟩ = some v' ∧ w.cell? ⟨k'', 0, none⟩ = some u'' ∧ w.cell? ⟨k'', 1, none⟩ = some v'' := ⟨h.c0, h.c1, h'.c0, h'.c1, h''.c0, h''.c1⟩
end Go.Proofs.Ytcndfpfjckkinaa
