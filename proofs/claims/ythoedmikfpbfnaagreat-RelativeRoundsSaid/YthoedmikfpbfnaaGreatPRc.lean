/-
  Texts joined: Gf, Gg, Fw, Cal, Civ, Gh, Bx, Cka, Ckb, Ckf, Pla, Civ2, Civ3, App, Wsum, Dus, Mw, Ml, Unt, Dur. Each says at its head what it shows.
-/
import Derived.Deep.DeepCutAuto
import Derived.RangeFuncNested
import Derived.RangeFuncBound
import Derived.RangeFuncCalls
import Derived.RangeFuncLeaves
import Derived.Shelf.Abstract
import Derived.Shelf.RegionOpen
import Derived.OwnWalkIn
import Derived.TacticsInMore
import Derived.LoopNIn
import Derived.LoopIn
import Derived.RangeFuncFrom
import Derived.KernelRfl
import Derived.ArgAppend
import Derived.Test.YthoedmikfpbfnaaGreatPRb
set_option linter.unusedVariables false
set_option linter.unusedSimpArgs false
section
namespace Go.Proofs.YthoedmikfpbfnaaGreat
open Go Go.RowKit

theorem tdm {a b : Int} (hb : b ≠ 0) : a = b * a.tdiv b + a.tmod b ∧ (a.tmod b).natAbs < b.natAbs ∧ (a.tmod b).natAbs ≤ a.natAbs := by
 have h1 := Int.mul_tdiv_add_tmod a b
 have h2 := Int.natAbs_tmod a b
 have h3 := Nat.mod_lt a.natAbs (show 0 < b.natAbs by omega)
 have h4 := Nat.mod_le a.natAbs b.natAbs
 refine ⟨h1.symm, by omega, by omega⟩
theorem floor_same {a b : Int} (hb : b ≠ 0) (h : a.tmod b = 0 ∨ (a.tmod b < 0 ↔ b < 0)) : a.fdiv b = a.tdiv b ∧ a.fmod b = a.tmod b := by
 obtain ⟨h1, h2, h3⟩ := tdm (a := a) hb
 generalize a.tdiv b = q at *
 generalize a.tmod b = r at *
 by_cases h0 : 0 < b
 ·exact fdiv_fmod_pos h0 h1 (by omega) (by omega)
 ·exact fdiv_fmod_neg (by omega) h1 (by omega) (by omega)
theorem floor_less {a b : Int} (hb : b ≠ 0) (h0 : a.tmod b ≠ 0) (h : ¬ (a.tmod b < 0 ↔ b < 0)) : a.fdiv b = a.tdiv b - 1 ∧ a.fmod b = a.tmod b + b := by
 obtain ⟨h1, h2, h3⟩ := tdm (a := a) hb
 generalize a.tdiv b = q at *
 generalize a.tmod b = r at *
 have e : a = b * (q - 1) + (r + b) := by rw [Int.mul_sub, h1]; omega
 by_cases h0 : 0 < b
 ·exact fdiv_fmod_pos h0 e (by omega) (by omega)
 ·exact fdiv_fmod_neg (by omega) e (by omega) (by omega)
theorem tdiv_nat {a b : Int} : (a.tdiv b).natAbs = a.natAbs / b.natAbs := Int.natAbs_tdiv a b
theorem trunc_room {a b : Int} (ha : W128 a) (hb : b ≠ 0) (h : ¬ W128 (a.tdiv b)) : a.tmod b = 0 := by
 obtain ⟨h1, h2, h3⟩ := tdm (a := a) hb
 have e := tdiv_nat (a := a) (b := b)
 by_cases hb1 : b.natAbs = 1
 ·omega
 ·exfalso
  have : a.natAbs / b.natAbs ≤ a.natAbs / 2 := Nat.div_le_div_left (by omega) (by omega)
  unfold W128 at *
  omega
theorem floor_room {a b : Int} (ha : W128 a) (hb : b ≠ 0) (h0 : a.tmod b ≠ 0) : W128 (a.tdiv b - 1) := by
 obtain ⟨h1, h2, h3⟩ := tdm (a := a) hb
 have e := tdiv_nat (a := a) (b := b)
 have : a.natAbs / b.natAbs ≤ a.natAbs / 2 := Nat.div_le_div_left (by omega) (by omega)
 unfold W128 at *
 omega

def Trunc3 (a b : Int) : Prop := ∀ w, Calls Tryz.prog 139 #[.agg #[.int .i64 (hi a), .int .u64 (lo a)], .agg #[.int .i64 (hi b), .int .u64 (lo b)]] w (RetQ w (a.tdiv b) (a.tmod b))
set_option maxRecDepth 100000 in
set_option maxHeartbeats 3200000 in
theorem dfloor (a b : Int) (w : World) (ha : W128 a) (hb : W128 b) (h0 : b ≠ 0) (ho : Trunc3 a b) :
  Calls Tryz.prog 107 #[.agg #[.int .i64 (hi a), .int .u64 (lo a)], .agg #[.int .i64 (hi b), .int .u64 (lo b)]] w (RetQ w (a.fdiv b) (a.fmod b)) := by
 have H1 := Lib.hid ho
 have H2 := Lib.hid of_pure
 have H3 := Lib.hid wsub
 have H4 := Lib.hid wadd
 clear ho
 by_cases hq : W128 (a.tdiv b)
 ·by_cases hr : a.tmod b = 0
  ·obtain ⟨e1, e2⟩ := floor_same (a := a) h0 (Or.inl hr)
   rw [e1, e2]
   have HR := Lib.hid (show hi (a.tmod b) = 0 ∧ lo (a.tmod b) = 0 by rw [hr]; exact ⟨rfl, rfl⟩)
   have g1 : (hi (a.tmod b) == 0) = true := by rw [HR.out.1]; rfl
   have g2 : (lo (a.tmod b) == 0) = true := by rw [HR.out.2]; rfl
   clear e1 e2 hr
   go_enter Tryz.func107, Tryz.ntmps107
   go_wp2_with fail
   obtain ⟨W, hW⟩ : ∃ W, W = (((w.alloc (.cells #[.int .i64 (hi a), .int .u64 (lo a)] 42)).alloc (.cells #[.int .i64 (hi b), .int .u64 (lo b)] 42)).alloc (.cells #[.int .i64 0, .int .u64 0] 42)).alloc (.cells #[.int .i64 0, .int .u64 0] 42) := ⟨_, rfl⟩
   rw [← hW]
   have hB : Box2 W (w.heap.size + 1) (.int .i64 (hi b)) (.int .u64 (lo b)) 42 := by rw [hW]; exact ((Box2.new (by simp)).alloc _).alloc _
   have hR : Box2 W (w.heap.size + 1 + 1) (.int .i64 0) (.int .u64 0) 42 := by rw [hW]; exact (Box2.new (by simp)).alloc _
   have hS : Box2 W (w.heap.size + 1 + 1 + 1) (.int .i64 0) (.int .u64 0) 42 := by rw [hW]; exact Box2.new (by simp)
   have xw : Ext w W := by rw [hW]; exact (Ext.refl w).alloc.alloc.alloc.alloc
   clear hW
   refine (H1.out _).mono ?_
   rintro e w1 ⟨rfl, x1⟩
   (first | replace xw := Ext.trans xw x1 | replace xw := Ext.trans (Ext.alloc xw) x1 | replace xw := Ext.trans (Ext.drew xw) x1 | replace xw := Ext.trans (Ext.alloc (Ext.drew xw)) x1); (first | replace hB := hB.ext x1 | replace hB := (hB.alloc _).ext x1 | replace hB := hB.drew.ext x1 | replace hB := (hB.drew.alloc _).ext x1); (first | replace hR := hR.ext x1 | replace hR := (hR.alloc _).ext x1 | replace hR := hR.drew.ext x1 | replace hR := (hR.drew.alloc _).ext x1); (first | replace hS := hS.ext x1 | replace hS := (hS.alloc _).ext x1 | replace hS := hS.drew.ext x1 | replace hS := (hS.drew.alloc _).ext x1)
   have y1 := hS.kind.lt
   rw [thi_yes hq, tlo_yes hq, ter_yes hq, show qh (a.tdiv b) (a.tmod b) = hi (a.tmod b) from if_pos hq, show ql (a.tdiv b) (a.tmod b) = lo (a.tmod b) from if_pos hq]
   obtain ⟨V, hV⟩ : ∃ V, V = (w1.alloc (.cells #[.int .i64 (hi (a.tdiv b)), .int .u64 (lo (a.tdiv b))] 42)).alloc (.cells #[.int .i64 (hi (a.tmod b)), .int .u64 (lo (a.tmod b))] 42) := ⟨_, rfl⟩
   have hP : Box2 V w1.heap.size (.int .i64 (hi (a.tdiv b))) (.int .u64 (lo (a.tdiv b))) 42 := by rw [hV]; exact (Box2.new rfl).alloc _
   have hQ : Box2 V (w1.heap.size + 1) (.int .i64 (hi (a.tmod b))) (.int .u64 (lo (a.tmod b))) 42 := by rw [hV]; exact Box2.new (by simp)
   replace hB := hB.named2 hV
   replace hR := hR.named2 hV
   replace hS := hS.named2 hV
   replace xw : Ext w V := by rw [hV]; exact Ext.alloc (Ext.alloc xw)
   have kB := hB
   rw [hV] at kB
   have kQ := hQ
   rw [hV] at kQ
   have kB_0 := kB.c0; have kB_1 := kB.c1; have kQ_0 := kQ.c0; have kQ_1 := kQ.c1
   go_wp2_with fail
   rw [← hV]
   clear kB_0 kB_1 kQ_0 kQ_1
   clear kB kQ hV
   have n1 : ¬ w1.heap.size = w.heap.size + 1 + 1 := by omega
   have n2 : ¬ w1.heap.size = w.heap.size + 1 + 1 + 1 := by omega
   have n3 : ¬ w1.heap.size + 1 = w.heap.size + 1 + 1 := by omega
   have n4 : ¬ w1.heap.size + 1 = w.heap.size + 1 + 1 + 1 := by omega
   have n5 : ¬ w.heap.size + 1 + 1 = w1.heap.size := by omega
   have n6 : ¬ w.heap.size + 1 + 1 + 1 = w1.heap.size := by omega
   have n7 : ¬ w.heap.size + 1 = w1.heap.size := by omega
   have n8 : ¬ w.heap.size + 1 + 1 = w1.heap.size + 1 := by omega
   have n9 : ¬ w1.heap.size = w.heap.size + 1 := by omega
   have hP_0 := hP.c0; have hP_1 := hP.c1; have hQ_0 := hQ.c0; have hQ_1 := hQ.c1; have hR_0 := hR.c0; have hR_1 := hR.c1; have hS_0 := hS.c0; have hS_1 := hS.c1
   have hR_2 := hR.f0; have hR_3 := hR.f1; have hS_2 := hS.f0; have hS_3 := hS.f1
   go_region
   go_wp2_with fail
   refine bodyPost_ret (v := .tuple #[.agg #[.int .i64 (hi (a.tdiv b)), .int .u64 (lo (a.tdiv b))], .agg #[.int .i64 (hi (a.tmod b)), .int .u64 (lo (a.tmod b))], .int .i64 0]) (by simp [results, Tryz.results107, go_sem, hR_0, hR_1, hS_0, hS_1]) rfl (retQ_yes hq ?_)
   exact Ext.drew (Ext.set (Ext.set (Ext.set (Ext.set xw (by omega)) (by omega)) (by omega)) (by omega))
  ·by_cases hs : a.tmod b < 0 ↔ b < 0
   ·obtain ⟨e1, e2⟩ := floor_same (a := a) h0 (Or.inr hs)
    rw [e1, e2]
    have hsg : (decide (hi (a.tmod b) < 0) == decide (hi b < 0)) = true := by
     simp only [beq_iff_eq, decide_eq_decide, hi_neg]; exact hs
    clear e1 e2
    by_cases hz : hi (a.tmod b) = 0
    ·have g1 : (hi (a.tmod b) == 0) = true := by simpa using hz
     have g2 : (lo (a.tmod b) == 0) = false := by
      simp only [beq_eq_false_iff_ne, ne_eq]; intro h; apply hr; rw [hi_lo (a.tmod b), hz, h]; rfl
     clear hz hr hs
     go_enter Tryz.func107, Tryz.ntmps107
     go_wp2_with fail
     obtain ⟨W, hW⟩ : ∃ W, W = (((w.alloc (.cells #[.int .i64 (hi a), .int .u64 (lo a)] 42)).alloc (.cells #[.int .i64 (hi b), .int .u64 (lo b)] 42)).alloc (.cells #[.int .i64 0, .int .u64 0] 42)).alloc (.cells #[.int .i64 0, .int .u64 0] 42) := ⟨_, rfl⟩
     rw [← hW]
     have hB : Box2 W (w.heap.size + 1) (.int .i64 (hi b)) (.int .u64 (lo b)) 42 := by rw [hW]; exact ((Box2.new (by simp)).alloc _).alloc _
     have hR : Box2 W (w.heap.size + 1 + 1) (.int .i64 0) (.int .u64 0) 42 := by rw [hW]; exact (Box2.new (by simp)).alloc _
     have hS : Box2 W (w.heap.size + 1 + 1 + 1) (.int .i64 0) (.int .u64 0) 42 := by rw [hW]; exact Box2.new (by simp)
     have xw : Ext w W := by rw [hW]; exact (Ext.refl w).alloc.alloc.alloc.alloc
     clear hW
     refine (H1.out _).mono ?_
     rintro e w1 ⟨rfl, x1⟩
     (first | replace xw := Ext.trans xw x1 | replace xw := Ext.trans (Ext.alloc xw) x1 | replace xw := Ext.trans (Ext.drew xw) x1 | replace xw := Ext.trans (Ext.alloc (Ext.drew xw)) x1); (first | replace hB := hB.ext x1 | replace hB := (hB.alloc _).ext x1 | replace hB := hB.drew.ext x1 | replace hB := (hB.drew.alloc _).ext x1); (first | replace hR := hR.ext x1 | replace hR := (hR.alloc _).ext x1 | replace hR := hR.drew.ext x1 | replace hR := (hR.drew.alloc _).ext x1); (first | replace hS := hS.ext x1 | replace hS := (hS.alloc _).ext x1 | replace hS := hS.drew.ext x1 | replace hS := (hS.drew.alloc _).ext x1)
     have y1 := hS.kind.lt
     rw [thi_yes hq, tlo_yes hq, ter_yes hq, show qh (a.tdiv b) (a.tmod b) = hi (a.tmod b) from if_pos hq, show ql (a.tdiv b) (a.tmod b) = lo (a.tmod b) from if_pos hq]
     obtain ⟨V, hV⟩ : ∃ V, V = (w1.alloc (.cells #[.int .i64 (hi (a.tdiv b)), .int .u64 (lo (a.tdiv b))] 42)).alloc (.cells #[.int .i64 (hi (a.tmod b)), .int .u64 (lo (a.tmod b))] 42) := ⟨_, rfl⟩
     have hP : Box2 V w1.heap.size (.int .i64 (hi (a.tdiv b))) (.int .u64 (lo (a.tdiv b))) 42 := by rw [hV]; exact (Box2.new rfl).alloc _
     have hQ : Box2 V (w1.heap.size + 1) (.int .i64 (hi (a.tmod b))) (.int .u64 (lo (a.tmod b))) 42 := by rw [hV]; exact Box2.new (by simp)
     replace hB := hB.named2 hV
     replace hR := hR.named2 hV
     replace hS := hS.named2 hV
     replace xw : Ext w V := by rw [hV]; exact Ext.alloc (Ext.alloc xw)
     have kB := hB
     rw [hV] at kB
     have kQ := hQ
     rw [hV] at kQ
     have kB_0 := kB.c0; have kB_1 := kB.c1; have kQ_0 := kQ.c0; have kQ_1 := kQ.c1
     go_wp2_with fail
     rw [← hV]
     clear kB_0 kB_1 kQ_0 kQ_1
     clear kB kQ hV
     have n1 : ¬ w1.heap.size = w.heap.size + 1 + 1 := by omega
     have n2 : ¬ w1.heap.size = w.heap.size + 1 + 1 + 1 := by omega
     have n3 : ¬ w1.heap.size + 1 = w.heap.size + 1 + 1 := by omega
     have n4 : ¬ w1.heap.size + 1 = w.heap.size + 1 + 1 + 1 := by omega
     have n5 : ¬ w.heap.size + 1 + 1 = w1.heap.size := by omega
     have n6 : ¬ w.heap.size + 1 + 1 + 1 = w1.heap.size := by omega
     have n7 : ¬ w.heap.size + 1 = w1.heap.size := by omega
     have n8 : ¬ w.heap.size + 1 + 1 = w1.heap.size + 1 := by omega
     have n9 : ¬ w1.heap.size = w.heap.size + 1 := by omega
     have hP_0 := hP.c0; have hP_1 := hP.c1; have hQ_0 := hQ.c0; have hQ_1 := hQ.c1; have hR_0 := hR.c0; have hR_1 := hR.c1; have hS_0 := hS.c0; have hS_1 := hS.c1
     have hR_2 := hR.f0; have hR_3 := hR.f1; have hS_2 := hS.f0; have hS_3 := hS.f1
     go_region
     go_wp2_with fail
     refine bodyPost_ret (v := .tuple #[.agg #[.int .i64 (hi (a.tdiv b)), .int .u64 (lo (a.tdiv b))], .agg #[.int .i64 (hi (a.tmod b)), .int .u64 (lo (a.tmod b))], .int .i64 0]) (by simp [results, Tryz.results107, go_sem, hR_0, hR_1, hS_0, hS_1]) rfl (retQ_yes hq ?_)
     exact Ext.drew (Ext.set (Ext.set (Ext.set (Ext.set xw (by omega)) (by omega)) (by omega)) (by omega))
    ·have g1 : (hi (a.tmod b) == 0) = false := by simpa using hz
     clear hz hr hs
     go_enter Tryz.func107, Tryz.ntmps107
     go_wp2_with fail
     obtain ⟨W, hW⟩ : ∃ W, W = (((w.alloc (.cells #[.int .i64 (hi a), .int .u64 (lo a)] 42)).alloc (.cells #[.int .i64 (hi b), .int .u64 (lo b)] 42)).alloc (.cells #[.int .i64 0, .int .u64 0] 42)).alloc (.cells #[.int .i64 0, .int .u64 0] 42) := ⟨_, rfl⟩
     rw [← hW]
     have hB : Box2 W (w.heap.size + 1) (.int .i64 (hi b)) (.int .u64 (lo b)) 42 := by rw [hW]; exact ((Box2.new (by simp)).alloc _).alloc _
     have hR : Box2 W (w.heap.size + 1 + 1) (.int .i64 0) (.int .u64 0) 42 := by rw [hW]; exact (Box2.new (by simp)).alloc _
     have hS : Box2 W (w.heap.size + 1 + 1 + 1) (.int .i64 0) (.int .u64 0) 42 := by rw [hW]; exact Box2.new (by simp)
     have xw : Ext w W := by rw [hW]; exact (Ext.refl w).alloc.alloc.alloc.alloc
     clear hW
     refine (H1.out _).mono ?_
     rintro e w1 ⟨rfl, x1⟩
     (first | replace xw := Ext.trans xw x1 | replace xw := Ext.trans (Ext.alloc xw) x1 | replace xw := Ext.trans (Ext.drew xw) x1 | replace xw := Ext.trans (Ext.alloc (Ext.drew xw)) x1); (first | replace hB := hB.ext x1 | replace hB := (hB.alloc _).ext x1 | replace hB := hB.drew.ext x1 | replace hB := (hB.drew.alloc _).ext x1); (first | replace hR := hR.ext x1 | replace hR := (hR.alloc _).ext x1 | replace hR := hR.drew.ext x1 | replace hR := (hR.drew.alloc _).ext x1); (first | replace hS := hS.ext x1 | replace hS := (hS.alloc _).ext x1 | replace hS := hS.drew.ext x1 | replace hS := (hS.drew.alloc _).ext x1)
     have y1 := hS.kind.lt
     rw [thi_yes hq, tlo_yes hq, ter_yes hq, show qh (a.tdiv b) (a.tmod b) = hi (a.tmod b) from if_pos hq, show ql (a.tdiv b) (a.tmod b) = lo (a.tmod b) from if_pos hq]
     obtain ⟨V, hV⟩ : ∃ V, V = (w1.alloc (.cells #[.int .i64 (hi (a.tdiv b)), .int .u64 (lo (a.tdiv b))] 42)).alloc (.cells #[.int .i64 (hi (a.tmod b)), .int .u64 (lo (a.tmod b))] 42) := ⟨_, rfl⟩
     have hP : Box2 V w1.heap.size (.int .i64 (hi (a.tdiv b))) (.int .u64 (lo (a.tdiv b))) 42 := by rw [hV]; exact (Box2.new rfl).alloc _
     have hQ : Box2 V (w1.heap.size + 1) (.int .i64 (hi (a.tmod b))) (.int .u64 (lo (a.tmod b))) 42 := by rw [hV]; exact Box2.new (by simp)
     replace hB := hB.named2 hV
     replace hR := hR.named2 hV
     replace hS := hS.named2 hV
     replace xw : Ext w V := by rw [hV]; exact Ext.alloc (Ext.alloc xw)
     have kB := hB
     rw [hV] at kB
     have kQ := hQ
     rw [hV] at kQ
     have kB_0 := kB.c0; have kB_1 := kB.c1; have kQ_0 := kQ.c0; have kQ_1 := kQ.c1
     go_wp2_with fail
     rw [← hV]
     clear kB_0 kB_1 kQ_0 kQ_1
     clear kB kQ hV
     have n1 : ¬ w1.heap.size = w.heap.size + 1 + 1 := by omega
     have n2 : ¬ w1.heap.size = w.heap.size + 1 + 1 + 1 := by omega
     have n3 : ¬ w1.heap.size + 1 = w.heap.size + 1 + 1 := by omega
     have n4 : ¬ w1.heap.size + 1 = w.heap.size + 1 + 1 + 1 := by omega
     have n5 : ¬ w.heap.size + 1 + 1 = w1.heap.size := by omega
     have n6 : ¬ w.heap.size + 1 + 1 + 1 = w1.heap.size := by omega
     have n7 : ¬ w.heap.size + 1 = w1.heap.size := by omega
     have n8 : ¬ w.heap.size + 1 + 1 = w1.heap.size + 1 := by omega
     have n9 : ¬ w1.heap.size = w.heap.size + 1 := by omega
     have hP_0 := hP.c0; have hP_1 := hP.c1; have hQ_0 := hQ.c0; have hQ_1 := hQ.c1; have hR_0 := hR.c0; have hR_1 := hR.c1; have hS_0 := hS.c0; have hS_1 := hS.c1
     have hR_2 := hR.f0; have hR_3 := hR.f1; have hS_2 := hS.f0; have hS_3 := hS.f1
     go_region
     go_wp2_with fail
     refine bodyPost_ret (v := .tuple #[.agg #[.int .i64 (hi (a.tdiv b)), .int .u64 (lo (a.tdiv b))], .agg #[.int .i64 (hi (a.tmod b)), .int .u64 (lo (a.tmod b))], .int .i64 0]) (by simp [results, Tryz.results107, go_sem, hR_0, hR_1, hS_0, hS_1]) rfl (retQ_yes hq ?_)
     exact Ext.drew (Ext.set (Ext.set (Ext.set (Ext.set xw (by omega)) (by omega)) (by omega)) (by omega))
   ·obtain ⟨e1, e2⟩ := floor_less (a := a) h0 hr hs
    have hq1 := floor_room ha h0 hr
    have hr1 : W128 (a.tmod b + b) := by
     obtain ⟨k1, k2, k3⟩ := tdm (a := a) h0
     unfold W128 at *
     omega
    have hrW := tmod_W (a := a) hb h0
    rw [e1, e2]
    have hsg : (decide (hi (a.tmod b) < 0) == decide (hi b < 0)) = false := by
     simp only [beq_eq_false_iff_ne, ne_eq, decide_eq_decide, hi_neg]; exact hs
    have hW1 : W128 1 := by unfold W128; omega
    clear e1 e2
    by_cases hz : hi (a.tmod b) = 0
    ·have g1 : (hi (a.tmod b) == 0) = true := by simpa using hz
     have g2 : (lo (a.tmod b) == 0) = false := by
      simp only [beq_eq_false_iff_ne, ne_eq]; intro h; apply hr; rw [hi_lo (a.tmod b), hz, h]; rfl
     clear hz hr hs
     go_enter Tryz.func107, Tryz.ntmps107
     go_wp2_with fail
     obtain ⟨W, hW⟩ : ∃ W, W = (((w.alloc (.cells #[.int .i64 (hi a), .int .u64 (lo a)] 42)).alloc (.cells #[.int .i64 (hi b), .int .u64 (lo b)] 42)).alloc (.cells #[.int .i64 0, .int .u64 0] 42)).alloc (.cells #[.int .i64 0, .int .u64 0] 42) := ⟨_, rfl⟩
     rw [← hW]
     have hB : Box2 W (w.heap.size + 1) (.int .i64 (hi b)) (.int .u64 (lo b)) 42 := by rw [hW]; exact ((Box2.new (by simp)).alloc _).alloc _
     have hR : Box2 W (w.heap.size + 1 + 1) (.int .i64 0) (.int .u64 0) 42 := by rw [hW]; exact (Box2.new (by simp)).alloc _
     have hS : Box2 W (w.heap.size + 1 + 1 + 1) (.int .i64 0) (.int .u64 0) 42 := by rw [hW]; exact Box2.new (by simp)
     have xw : Ext w W := by rw [hW]; exact (Ext.refl w).alloc.alloc.alloc.alloc
     clear hW
     refine (H1.out _).mono ?_
     rintro e w1 ⟨rfl, x1⟩
     (first | replace xw := Ext.trans xw x1 | replace xw := Ext.trans (Ext.alloc xw) x1 | replace xw := Ext.trans (Ext.drew xw) x1 | replace xw := Ext.trans (Ext.alloc (Ext.drew xw)) x1); (first | replace hB := hB.ext x1 | replace hB := (hB.alloc _).ext x1 | replace hB := hB.drew.ext x1 | replace hB := (hB.drew.alloc _).ext x1); (first | replace hR := hR.ext x1 | replace hR := (hR.alloc _).ext x1 | replace hR := hR.drew.ext x1 | replace hR := (hR.drew.alloc _).ext x1); (first | replace hS := hS.ext x1 | replace hS := (hS.alloc _).ext x1 | replace hS := hS.drew.ext x1 | replace hS := (hS.drew.alloc _).ext x1)
     have y1 := hS.kind.lt
     rw [thi_yes hq, tlo_yes hq, ter_yes hq, show qh (a.tdiv b) (a.tmod b) = hi (a.tmod b) from if_pos hq, show ql (a.tdiv b) (a.tmod b) = lo (a.tmod b) from if_pos hq]
     obtain ⟨V, hV⟩ : ∃ V, V = (w1.alloc (.cells #[.int .i64 (hi (a.tdiv b)), .int .u64 (lo (a.tdiv b))] 42)).alloc (.cells #[.int .i64 (hi (a.tmod b)), .int .u64 (lo (a.tmod b))] 42) := ⟨_, rfl⟩
     have hP : Box2 V w1.heap.size (.int .i64 (hi (a.tdiv b))) (.int .u64 (lo (a.tdiv b))) 42 := by rw [hV]; exact (Box2.new rfl).alloc _
     have hQ : Box2 V (w1.heap.size + 1) (.int .i64 (hi (a.tmod b))) (.int .u64 (lo (a.tmod b))) 42 := by rw [hV]; exact Box2.new (by simp)
     replace hB := hB.named2 hV
     replace hR := hR.named2 hV
     replace hS := hS.named2 hV
     replace xw : Ext w V := by rw [hV]; exact Ext.alloc (Ext.alloc xw)
     have kB := hB
     rw [hV] at kB
     have kQ := hQ
     rw [hV] at kQ
     have kB_0 := kB.c0; have kB_1 := kB.c1; have kQ_0 := kQ.c0; have kQ_1 := kQ.c1
     go_wp2_with fail
     rw [← hV]
     clear kB_0 kB_1 kQ_0 kQ_1
     clear kB kQ hV
     go_cut [9] (fun s9 wx => s9 = .int .i64 0 ∧ Box2 wx w1.heap.size (.int .i64 (hi (a.tdiv b - 1))) (.int .u64 (lo (a.tdiv b - 1))) 42 ∧ Box2 wx (w1.heap.size + 1) (.int .i64 (hi (a.tmod b))) (.int .u64 (lo (a.tmod b))) 42 ∧
      Box2 wx (w.heap.size + 1) (.int .i64 (hi b)) (.int .u64 (lo b)) 42 ∧ Box2 wx (w.heap.size + 1 + 1) (.int .i64 0) (.int .u64 0) 42 ∧ Box2 wx (w.heap.size + 1 + 1 + 1) (.int .i64 0) (.int .u64 0) 42 ∧ Ext w wx)
     case first =>
      have hP_0 := hP.c0; have hP_1 := hP.c1
      have d0 := hP.drew.c0
      have d1 := hP.drew.c1
      go_region_with (first
       | (go_at_call 30; refine (H2.out 1 _ (by omega) (by omega)).mono ?_; rintro e w2 ⟨rfl, x2⟩; have p := hP.drew.ext x2; have p0 := p.c0; have p1 := p.c1)
       | (go_at_call 92; refine (H3.out (a.tdiv b) 1 _ hq hW1).mono ?_; rw [show RetT _ (a.tdiv b - 1) = fun e w' => e = .returned (.tuple #[.agg #[.int .i64 (hi (a.tdiv b - 1)), .int .u64 (lo (a.tdiv b - 1))], .int .i64 0]) ∧ Ext _ w' from by unfold RetT; rw [thi_yes hq1, tlo_yes hq1, ter_yes hq1]]; rintro e w3 ⟨rfl, x3⟩; have q := (hP.drew.ext x2).ext x3; have q0 := q.c0; have q1 := q.c1; have q2 := q.f0; have q3 := q.f1))
      all_goals
       go_wp2_with fail
       go_meet
       exact ⟨rfl, q.set _ _, ((hQ.drew.ext x2).ext x3).other2 (by omega) _ _, ((hB.drew.ext x2).ext x3).other2 (by omega) _ _, ((hR.drew.ext x2).ext x3).other2 (by omega) _ _, ((hS.drew.ext x2).ext x3).other2 (by omega) _ _, Ext.set (Ext.set (Ext.trans (Ext.trans (Ext.drew xw) x2) x3) (by omega)) (by omega)⟩
     case rest =>
      obtain ⟨rfl, hP, hQ, hB, hR, hS, xw⟩ := hcut
      have hQ_0 := hQ.c0; have hQ_1 := hQ.c1; have hB_0 := hB.c0; have hB_1 := hB.c1
      go_wp2_with fail
      clear hQ_0 hQ_1 hB_0 hB_1
      refine (H4.out _ _ _ hrW hb).mono ?_
      rintro e w4 ⟨rfl, x4⟩
      rw [thi_yes hr1, tlo_yes hr1, ter_yes hr1]
      (first | replace xw := Ext.trans xw x4 | replace xw := Ext.trans (Ext.alloc xw) x4 | replace xw := Ext.trans (Ext.drew xw) x4 | replace xw := Ext.trans (Ext.alloc (Ext.drew xw)) x4); (first | replace hP := hP.ext x4 | replace hP := (hP.alloc _).ext x4 | replace hP := hP.drew.ext x4 | replace hP := (hP.drew.alloc _).ext x4); (first | replace hQ := hQ.ext x4 | replace hQ := (hQ.alloc _).ext x4 | replace hQ := hQ.drew.ext x4 | replace hQ := (hQ.drew.alloc _).ext x4); (first | replace hB := hB.ext x4 | replace hB := (hB.alloc _).ext x4 | replace hB := hB.drew.ext x4 | replace hB := (hB.drew.alloc _).ext x4); (first | replace hR := hR.ext x4 | replace hR := (hR.alloc _).ext x4 | replace hR := hR.drew.ext x4 | replace hR := (hR.drew.alloc _).ext x4); (first | replace hS := hS.ext x4 | replace hS := (hS.alloc _).ext x4 | replace hS := hS.drew.ext x4 | replace hS := (hS.drew.alloc _).ext x4)
      have hQ_0 := hQ.c0; have hQ_1 := hQ.c1
      have hQ_2 := hQ.f0; have hQ_3 := hQ.f1
      go_wp2_with fail
      clear hQ_0 hQ_1 hQ_2 hQ_3
      obtain ⟨U, hU⟩ : ∃ U, U = (w4.setCell ⟨w1.heap.size + 1, 0, none⟩ (.int .i64 (hi (a.tmod b + b)))).setCell ⟨w1.heap.size + 1, 1, none⟩ (.int .u64 (lo (a.tmod b + b))) := ⟨_, rfl⟩
      replace hP : Box2 U w1.heap.size (.int .i64 (hi (a.tdiv b - 1))) (.int .u64 (lo (a.tdiv b - 1))) 42 := by rw [hU]; exact hP.other2 (by omega) _ _
      replace hR : Box2 U (w.heap.size + 1 + 1) (.int .i64 0) (.int .u64 0) 42 := by rw [hU]; exact hR.other2 (by omega) _ _
      replace hS : Box2 U (w.heap.size + 1 + 1 + 1) (.int .i64 0) (.int .u64 0) 42 := by rw [hU]; exact hS.other2 (by omega) _ _
      replace hQ : Box2 U (w1.heap.size + 1) (.int .i64 (hi (a.tmod b + b))) (.int .u64 (lo (a.tmod b + b))) 42 := by rw [hU]; exact hQ.set _ _
      replace xw : Ext w U := by rw [hU]; exact Ext.set (Ext.set xw (by omega)) (by omega)
      rw [← hU]
      clear hU
      have n1 : ¬ w1.heap.size = w.heap.size + 1 + 1 := by omega
      have n2 : ¬ w1.heap.size = w.heap.size + 1 + 1 + 1 := by omega
      have n3 : ¬ w1.heap.size + 1 = w.heap.size + 1 + 1 := by omega
      have n4 : ¬ w1.heap.size + 1 = w.heap.size + 1 + 1 + 1 := by omega
      have n5 : ¬ w.heap.size + 1 + 1 = w1.heap.size := by omega
      have n6 : ¬ w.heap.size + 1 + 1 + 1 = w1.heap.size := by omega
      have n7 : ¬ w.heap.size + 1 = w1.heap.size := by omega
      have n8 : ¬ w.heap.size + 1 + 1 = w1.heap.size + 1 := by omega
      have n9 : ¬ w1.heap.size = w.heap.size + 1 := by omega
      have hP_0 := hP.c0; have hP_1 := hP.c1; have hQ_0 := hQ.c0; have hQ_1 := hQ.c1; have hR_0 := hR.c0; have hR_1 := hR.c1; have hS_0 := hS.c0; have hS_1 := hS.c1
      have hR_2 := hR.f0; have hR_3 := hR.f1; have hS_2 := hS.f0; have hS_3 := hS.f1
      go_region
      go_wp2_with fail
      refine bodyPost_ret (v := .tuple #[.agg #[.int .i64 (hi (a.tdiv b - 1)), .int .u64 (lo (a.tdiv b - 1))], .agg #[.int .i64 (hi (a.tmod b + b)), .int .u64 (lo (a.tmod b + b))], .int .i64 0]) (by simp [results, Tryz.results107, go_sem, hR_0, hR_1, hS_0, hS_1]) rfl (retQ_yes hq1 ?_)
      exact Ext.drew (Ext.set (Ext.set (Ext.set (Ext.set xw (by omega)) (by omega)) (by omega)) (by omega))
    ·have g1 : (hi (a.tmod b) == 0) = false := by simpa using hz
     clear hz hr hs
     go_enter Tryz.func107, Tryz.ntmps107
     go_wp2_with fail
     obtain ⟨W, hW⟩ : ∃ W, W = (((w.alloc (.cells #[.int .i64 (hi a), .int .u64 (lo a)] 42)).alloc (.cells #[.int .i64 (hi b), .int .u64 (lo b)] 42)).alloc (.cells #[.int .i64 0, .int .u64 0] 42)).alloc (.cells #[.int .i64 0, .int .u64 0] 42) := ⟨_, rfl⟩
     rw [← hW]
     have hB : Box2 W (w.heap.size + 1) (.int .i64 (hi b)) (.int .u64 (lo b)) 42 := by rw [hW]; exact ((Box2.new (by simp)).alloc _).alloc _
     have hR : Box2 W (w.heap.size + 1 + 1) (.int .i64 0) (.int .u64 0) 42 := by rw [hW]; exact (Box2.new (by simp)).alloc _
     have hS : Box2 W (w.heap.size + 1 + 1 + 1) (.int .i64 0) (.int .u64 0) 42 := by rw [hW]; exact Box2.new (by simp)
     have xw : Ext w W := by rw [hW]; exact (Ext.refl w).alloc.alloc.alloc.alloc
     clear hW
     refine (H1.out _).mono ?_
     rintro e w1 ⟨rfl, x1⟩
     (first | replace xw := Ext.trans xw x1 | replace xw := Ext.trans (Ext.alloc xw) x1 | replace xw := Ext.trans (Ext.drew xw) x1 | replace xw := Ext.trans (Ext.alloc (Ext.drew xw)) x1); (first | replace hB := hB.ext x1 | replace hB := (hB.alloc _).ext x1 | replace hB := hB.drew.ext x1 | replace hB := (hB.drew.alloc _).ext x1); (first | replace hR := hR.ext x1 | replace hR := (hR.alloc _).ext x1 | replace hR := hR.drew.ext x1 | replace hR := (hR.drew.alloc _).ext x1); (first | replace hS := hS.ext x1 | replace hS := (hS.alloc _).ext x1 | replace hS := hS.drew.ext x1 | replace hS := (hS.drew.alloc _).ext x1)
     have y1 := hS.kind.lt
     rw [thi_yes hq, tlo_yes hq, ter_yes hq, show qh (a.tdiv b) (a.tmod b) = hi (a.tmod b) from if_pos hq, show ql (a.tdiv b) (a.tmod b) = lo (a.tmod b) from if_pos hq]
     obtain ⟨V, hV⟩ : ∃ V, V = (w1.alloc (.cells #[.int .i64 (hi (a.tdiv b)), .int .u64 (lo (a.tdiv b))] 42)).alloc (.cells #[.int .i64 (hi (a.tmod b)), .int .u64 (lo (a.tmod b))] 42) := ⟨_, rfl⟩
     have hP : Box2 V w1.heap.size (.int .i64 (hi (a.tdiv b))) (.int .u64 (lo (a.tdiv b))) 42 := by rw [hV]; exact (Box2.new rfl).alloc _
     have hQ : Box2 V (w1.heap.size + 1) (.int .i64 (hi (a.tmod b))) (.int .u64 (lo (a.tmod b))) 42 := by rw [hV]; exact Box2.new (by simp)
     replace hB := hB.named2 hV
     replace hR := hR.named2 hV
     replace hS := hS.named2 hV
     replace xw : Ext w V := by rw [hV]; exact Ext.alloc (Ext.alloc xw)
     have kB := hB
     rw [hV] at kB
     have kQ := hQ
     rw [hV] at kQ
     have kB_0 := kB.c0; have kB_1 := kB.c1; have kQ_0 := kQ.c0; have kQ_1 := kQ.c1
     go_wp2_with fail
     rw [← hV]
     clear kB_0 kB_1 kQ_0 kQ_1
     clear kB kQ hV
     go_cut [9] (fun s9 wx => s9 = .int .i64 0 ∧ Box2 wx w1.heap.size (.int .i64 (hi (a.tdiv b - 1))) (.int .u64 (lo (a.tdiv b - 1))) 42 ∧ Box2 wx (w1.heap.size + 1) (.int .i64 (hi (a.tmod b))) (.int .u64 (lo (a.tmod b))) 42 ∧
      Box2 wx (w.heap.size + 1) (.int .i64 (hi b)) (.int .u64 (lo b)) 42 ∧ Box2 wx (w.heap.size + 1 + 1) (.int .i64 0) (.int .u64 0) 42 ∧ Box2 wx (w.heap.size + 1 + 1 + 1) (.int .i64 0) (.int .u64 0) 42 ∧ Ext w wx)
     case first =>
      have hP_0 := hP.c0; have hP_1 := hP.c1
      have d0 := hP.drew.c0
      have d1 := hP.drew.c1
      go_region_with (first
       | (go_at_call 30; refine (H2.out 1 _ (by omega) (by omega)).mono ?_; rintro e w2 ⟨rfl, x2⟩; have p := hP.drew.ext x2; have p0 := p.c0; have p1 := p.c1)
       | (go_at_call 92; refine (H3.out (a.tdiv b) 1 _ hq hW1).mono ?_; rw [show RetT _ (a.tdiv b - 1) = fun e w' => e = .returned (.tuple #[.agg #[.int .i64 (hi (a.tdiv b - 1)), .int .u64 (lo (a.tdiv b - 1))], .int .i64 0]) ∧ Ext _ w' from by unfold RetT; rw [thi_yes hq1, tlo_yes hq1, ter_yes hq1]]; rintro e w3 ⟨rfl, x3⟩; have q := (hP.drew.ext x2).ext x3; have q0 := q.c0; have q1 := q.c1; have q2 := q.f0; have q3 := q.f1))
      all_goals
       go_wp2_with fail
       go_meet
       exact ⟨rfl, q.set _ _, ((hQ.drew.ext x2).ext x3).other2 (by omega) _ _, ((hB.drew.ext x2).ext x3).other2 (by omega) _ _, ((hR.drew.ext x2).ext x3).other2 (by omega) _ _, ((hS.drew.ext x2).ext x3).other2 (by omega) _ _, Ext.set (Ext.set (Ext.trans (Ext.trans (Ext.drew xw) x2) x3) (by omega)) (by omega)⟩
     case rest =>
      obtain ⟨rfl, hP, hQ, hB, hR, hS, xw⟩ := hcut
      have hQ_0 := hQ.c0; have hQ_1 := hQ.c1; have hB_0 := hB.c0; have hB_1 := hB.c1
      go_wp2_with fail
      clear hQ_0 hQ_1 hB_0 hB_1
      refine (H4.out _ _ _ hrW hb).mono ?_
      rintro e w4 ⟨rfl, x4⟩
      rw [thi_yes hr1, tlo_yes hr1, ter_yes hr1]
      (first | replace xw := Ext.trans xw x4 | replace xw := Ext.trans (Ext.alloc xw) x4 | replace xw := Ext.trans (Ext.drew xw) x4 | replace xw := Ext.trans (Ext.alloc (Ext.drew xw)) x4); (first | replace hP := hP.ext x4 | replace hP := (hP.alloc _).ext x4 | replace hP := hP.drew.ext x4 | replace hP := (hP.drew.alloc _).ext x4); (first | replace hQ := hQ.ext x4 | replace hQ := (hQ.alloc _).ext x4 | replace hQ := hQ.drew.ext x4 | replace hQ := (hQ.drew.alloc _).ext x4); (first | replace hB := hB.ext x4 | replace hB := (hB.alloc _).ext x4 | replace hB := hB.drew.ext x4 | replace hB := (hB.drew.alloc _).ext x4); (first | replace hR := hR.ext x4 | replace hR := (hR.alloc _).ext x4 | replace hR := hR.drew.ext x4 | replace hR := (hR.drew.alloc _).ext x4); (first | replace hS := hS.ext x4 | replace hS := (hS.alloc _).ext x4 | replace hS := hS.drew.ext x4 | replace hS := (hS.drew.alloc _).ext x4)
      have hQ_0 := hQ.c0; have hQ_1 := hQ.c1
      have hQ_2 := hQ.f0; have hQ_3 := hQ.f1
      go_wp2_with fail
      clear hQ_0 hQ_1 hQ_2 hQ_3
      obtain ⟨U, hU⟩ : ∃ U, U = (w4.setCell ⟨w1.heap.size + 1, 0, none⟩ (.int .i64 (hi (a.tmod b + b)))).setCell ⟨w1.heap.size + 1, 1, none⟩ (.int .u64 (lo (a.tmod b + b))) := ⟨_, rfl⟩
      replace hP : Box2 U w1.heap.size (.int .i64 (hi (a.tdiv b - 1))) (.int .u64 (lo (a.tdiv b - 1))) 42 := by rw [hU]; exact hP.other2 (by omega) _ _
      replace hR : Box2 U (w.heap.size + 1 + 1) (.int .i64 0) (.int .u64 0) 42 := by rw [hU]; exact hR.other2 (by omega) _ _
      replace hS : Box2 U (w.heap.size + 1 + 1 + 1) (.int .i64 0) (.int .u64 0) 42 := by rw [hU]; exact hS.other2 (by omega) _ _
      replace hQ : Box2 U (w1.heap.size + 1) (.int .i64 (hi (a.tmod b + b))) (.int .u64 (lo (a.tmod b + b))) 42 := by rw [hU]; exact hQ.set _ _
      replace xw : Ext w U := by rw [hU]; exact Ext.set (Ext.set xw (by omega)) (by omega)
      rw [← hU]
      clear hU
      have n1 : ¬ w1.heap.size = w.heap.size + 1 + 1 := by omega
      have n2 : ¬ w1.heap.size = w.heap.size + 1 + 1 + 1 := by omega
      have n3 : ¬ w1.heap.size + 1 = w.heap.size + 1 + 1 := by omega
      have n4 : ¬ w1.heap.size + 1 = w.heap.size + 1 + 1 + 1 := by omega
      have n5 : ¬ w.heap.size + 1 + 1 = w1.heap.size := by omega
      have n6 : ¬ w.heap.size + 1 + 1 + 1 = w1.heap.size := by omega
      have n7 : ¬ w.heap.size + 1 = w1.heap.size := by omega
      have n8 : ¬ w.heap.size + 1 + 1 = w1.heap.size + 1 := by omega
      have n9 : ¬ w1.heap.size = w.heap.size + 1 := by omega
      have hP_0 := hP.c0; have hP_1 := hP.c1; have hQ_0 := hQ.c0; have hQ_1 := hQ.c1; have hR_0 := hR.c0; have hR_1 := hR.c1; have hS_0 := hS.c0; have hS_1 := hS.c1
      have hR_2 := hR.f0; have hR_3 := hR.f1; have hS_2 := hS.f0; have hS_3 := hS.f1
      go_region
      go_wp2_with fail
      refine bodyPost_ret (v := .tuple #[.agg #[.int .i64 (hi (a.tdiv b - 1)), .int .u64 (lo (a.tdiv b - 1))], .agg #[.int .i64 (hi (a.tmod b + b)), .int .u64 (lo (a.tmod b + b))], .int .i64 0]) (by simp [results, Tryz.results107, go_sem, hR_0, hR_1, hS_0, hS_1]) rfl (retQ_yes hq1 ?_)
      exact Ext.drew (Ext.set (Ext.set (Ext.set (Ext.set xw (by omega)) (by omega)) (by omega)) (by omega))
 ·have hr := trunc_room ha h0 hq
  obtain ⟨e1, e2⟩ := floor_same h0 (Or.inl hr)
  have hno : ¬ W128 (a.fdiv b) := by rw [e1]; exact hq
  clear e1 e2 hr
  go_enter Tryz.func107, Tryz.ntmps107
  go_wp2_with fail
  obtain ⟨W, hW⟩ : ∃ W, W = (((w.alloc (.cells #[.int .i64 (hi a), .int .u64 (lo a)] 42)).alloc (.cells #[.int .i64 (hi b), .int .u64 (lo b)] 42)).alloc (.cells #[.int .i64 0, .int .u64 0] 42)).alloc (.cells #[.int .i64 0, .int .u64 0] 42) := ⟨_, rfl⟩
  rw [← hW]
  have hB : Box2 W (w.heap.size + 1) (.int .i64 (hi b)) (.int .u64 (lo b)) 42 := by rw [hW]; exact ((Box2.new (by simp)).alloc _).alloc _
  have hR : Box2 W (w.heap.size + 1 + 1) (.int .i64 0) (.int .u64 0) 42 := by rw [hW]; exact (Box2.new (by simp)).alloc _
  have hS : Box2 W (w.heap.size + 1 + 1 + 1) (.int .i64 0) (.int .u64 0) 42 := by rw [hW]; exact Box2.new (by simp)
  have xw : Ext w W := by rw [hW]; exact (Ext.refl w).alloc.alloc.alloc.alloc
  clear hW
  refine (H1.out _).mono ?_
  rintro e w1 ⟨rfl, x1⟩
  (first | replace xw := Ext.trans xw x1 | replace xw := Ext.trans (Ext.alloc xw) x1 | replace xw := Ext.trans (Ext.drew xw) x1 | replace xw := Ext.trans (Ext.alloc (Ext.drew xw)) x1); (first | replace hB := hB.ext x1 | replace hB := (hB.alloc _).ext x1 | replace hB := hB.drew.ext x1 | replace hB := (hB.drew.alloc _).ext x1); (first | replace hR := hR.ext x1 | replace hR := (hR.alloc _).ext x1 | replace hR := hR.drew.ext x1 | replace hR := (hR.drew.alloc _).ext x1); (first | replace hS := hS.ext x1 | replace hS := (hS.alloc _).ext x1 | replace hS := hS.drew.ext x1 | replace hS := (hS.drew.alloc _).ext x1)
  have y1 := hS.kind.lt
  rw [thi_no hq, tlo_no hq, ter_no hq, show qh (a.tdiv b) (a.tmod b) = 0 from if_neg hq, show ql (a.tdiv b) (a.tmod b) = 0 from if_neg hq]
  replace hR := (hR.alloc (.cells #[.int .i64 0, .int .u64 0] 42)).alloc (.cells #[.int .i64 0, .int .u64 0] 42)
  replace hS := (hS.alloc (.cells #[.int .i64 0, .int .u64 0] 42)).alloc (.cells #[.int .i64 0, .int .u64 0] 42)
  have hR_0 := hR.c0; have hR_1 := hR.c1; have hS_0 := hS.c0; have hS_1 := hS.c1
  have hR_2 := hR.f0; have hR_3 := hR.f1; have hS_2 := hS.f0; have hS_3 := hS.f1
  go_wp2_with fail
  refine bodyPost_ret (v := .tuple #[.agg #[.int .i64 0, .int .u64 0], .agg #[.int .i64 0, .int .u64 0], .int .i64 2]) (by simp [results, Tryz.results107, go_sem, hR_0, hR_1, hS_0, hS_1]) rfl (retQ_no hno ?_)
  exact Ext.set (Ext.set (Ext.set (Ext.set (Ext.alloc (Ext.alloc xw)) (by omega)) (by omega)) (by omega)) (by omega)
end Go.Proofs.YthoedmikfpbfnaaGreat

namespace Go.Proofs.YthoedmikfpbfnaaGreat
open Go Go.RowKit

theorem by_math {a n : Int} (ha : W128 a) (hn : 0 < n) : W128 (a.fdiv n) ∧ 0 ≤ a.fmod n ∧ a.fmod n < n := by
 have e1 := Int.fdiv_eq_ediv_of_nonneg a (show 0 ≤ n by omega)
 have e2 := Int.fmod_eq_emod_of_nonneg a (show 0 ≤ n by omega)
 rw [e1, e2]
 have h1 := Int.emod_nonneg a (show n ≠ 0 by omega)
 have h2 := Int.emod_lt_of_pos a hn
 refine ⟨?_, h1, h2⟩
 unfold W128 at *
 by_cases h : 0 ≤ a
 ·have := Int.ediv_le_self n h
  have := Int.ediv_nonneg h (show 0 ≤ n by omega)
  omega
 ·have h3 : a ≤ a / n := by
   refine Int.le_ediv_of_mul_le hn ?_
   have := Int.mul_le_mul_of_nonpos_left (show a ≤ 0 by omega) (show 1 ≤ n by omega)
   omega
  have h4 : a / n < 0 := Int.ediv_neg_of_neg_of_pos (by omega) hn
  omega
theorem floor_small (a n : Int) (w : World) (ha : W128 a) (hn : 0 < n) (hI : I64 n) :
  Calls Tryz.prog 107 #[.agg #[.int .i64 (hi a), .int .u64 (lo a)], .agg #[.int .i64 (hi n), .int .u64 (lo n)]] w (RetQ w (a.fdiv n) (a.fmod n)) := by
 refine dfloor a n w ha hI.w (by omega) (fun w => dtrunc a n w ha hI.w (by omega) (fun w => ?_))
 have h1 : mag n = n := mag_pos (by omega)
 have h2 : n < 18446744073709551616 := by unfold I64 at hI; omega
 have h3 : lo n = n ∧ hi n = 0 := by have := small_hl (x := n) (by omega) h2; exact ⟨this.2, this.1⟩
 rw [h1]
 exact over_small (mag a) n w (mag_U ha) hn h2
def ByP (w : World) (a n : Int) (e : Ending) (w' : World) : Prop := e = .returned (.tuple #[.agg #[.int .i64 (hi (a.fdiv n)), .int .u64 (lo (a.fdiv n))], .int .i64 (a.fmod n), .int .i64 0]) ∧ Ext w w'

set_option maxRecDepth 100000 in
set_option maxHeartbeats 3200000 in
theorem dby (a n : Int) (w : World) (ha : W128 a) (hn : 0 < n) (hI : I64 n) :
  Calls Tryz.prog 118 #[.agg #[.int .i64 (hi a), .int .u64 (lo a)], .int .i64 n] w (ByP w a n) := by
 have H1 := Lib.hid of_pure
 have H2 := Lib.hid floor_small
 obtain ⟨hq, r0, r1⟩ := by_math ha hn
 obtain ⟨n0, n1⟩ := hI
 have hr : lo (a.fmod n) = a.fmod n ∧ hi (a.fmod n) = 0 := by have := small_hl (x := a.fmod n) r0 (by omega); exact ⟨this.2, this.1⟩
 have HR := Lib.hid hr
 have hn' : ¬ n ≤ 0 := by omega
 clear hr
 go_enter Tryz.func118, Tryz.ntmps118
 go_wp2_with fail
 obtain ⟨W, hW⟩ : ∃ W, W = (w.alloc (.cells #[.int .i64 (hi a), .int .u64 (lo a)] 42)).alloc (.cells #[.int .i64 0, .int .u64 0] 42) := ⟨_, rfl⟩
 rw [← hW]
 have hA : Box2 W w.heap.size (.int .i64 (hi a)) (.int .u64 (lo a)) 42 := by rw [hW]; exact (Box2.new rfl).alloc _
 have hR : Box2 W (w.heap.size + 1) (.int .i64 0) (.int .u64 0) 42 := by rw [hW]; exact Box2.new (by simp)
 have xw : Ext w W := by rw [hW]; exact (Ext.refl w).alloc.alloc
 have sW : W.heap.size = w.heap.size + 2 := by rw [hW]; simp
 have SW := Lib.hid sW
 clear hW sW
 go_cut [7, 8] (fun s7 s8 wx => ∃ (k7 k8 : Nat), s7 = .pointer (some ⟨k7, 0, none⟩) ∧ s8 = .pointer (some ⟨k8, 0, none⟩) ∧ w.heap.size + 2 ≤ k7 ∧ w.heap.size + 2 ≤ k8 ∧ Box2 wx k7 (.int .i64 (hi (a.fdiv n))) (.int .u64 (lo (a.fdiv n))) 42 ∧
  Box2 wx k8 (.int .i64 (hi (a.fmod n))) (.int .u64 (lo (a.fmod n))) 42 ∧ Box2 wx (w.heap.size + 1) (.int .i64 0) (.int .u64 0) 42 ∧ Ext w wx)
 case first =>
  refine wp_region_noPanic ?_
  refine wp_region_held_drew (S := fun w' => Ext W w') (by kernel_rfl) (Ext.refl W).drew (fun hHeld => ?_)
  have c0 := fun w' (h : Ext W w') => (hA.ext h).c0
  have c1 := fun w' (h : Ext W w') => (hA.ext h).c1
  refine wpAnyH_take (i := 0) (v := .agg #[.int .i64 (hi a), .int .u64 (lo a)]) rfl (by kernel_rfl) (by kernel_rfl) (by kernel_rfl) (fun _ _ _ h => h) (Or.inl ⟨by kernel_rfl, fun w' h => (by go_simp)⟩) hHeld ?_
  refine wpAnyH_take (i := 1) (v := .int .i64 n) rfl (by kernel_rfl) (by kernel_rfl) (by kernel_rfl) (fun _ _ _ h => h) (Or.inl ⟨by kernel_rfl, fun w' h => (by go_simp)⟩) hHeld ?_
  refine region2 (N := 13) (f0 := [0, 1]) (l := [(2, false), (3, false), (4, true), (5, true), (6, true), (7, true)]) (T := [10, 11, 12]) (iA := 8) (dA := 7) (iB := 9) (dB := 8) (oA := .cells #[.int .i64 0, .int .u64 0] 42) (oB := .cells #[.int .i64 0, .int .u64 0] 42) (fun _ _ _ _ _ h => h) (by kernel_rfl) (by kernel_rfl) rfl (by kernel_rfl) (by kernel_rfl)
   (fun K a w h => wpOp_of rfl fun K' hK => (by go_simp; exact hK _ _ h)) (fun K a w h => wpOp_of rfl fun K' hK => (by go_simp; exact hK _ _ h)) (by decide) (by simp [Act.put]) (by simp [Act.put]) (fun _ _ h x => h.trans x) hHeld ?_
  intro a1 v1 h1 y1; obtain ⟨s7, s8, rfl⟩ := away2 h1; refine wpOp_of rfl fun K' hK => ?_; go_simp
  refine (H1.out n _ n0 n1).mono ?_
  rintro e w1 ⟨rfl, hb1⟩
  refine hK _ _ ⟨⟨hb1, rfl, slots2 rfl rfl⟩, ?_⟩; clear hK K'
  intro a1 v2 h1 y2; obtain ⟨s7, s8, rfl⟩ := away2 h1; refine wpOp_of rfl fun K' hK => ?_; go_simp
  refine (H2.out a n _ ha hn ⟨n0, n1⟩).mono ?_
  unfold RetQ
  rw [thi_yes hq, tlo_yes hq, ter_yes hq, show qh (a.fdiv n) (a.fmod n) = hi (a.fmod n) from if_pos hq, show ql (a.fdiv n) (a.fmod n) = lo (a.fmod n) from if_pos hq]
  rintro e w3 ⟨rfl, hb2⟩
  refine hK _ _ ⟨⟨hb2, rfl, slots2 rfl rfl⟩, ?_⟩; clear hK K'
  have x4 : Ext W w3 := Ext.trans (Ext.trans (Ext.trans (Ext.trans (Ext.refl W).drew y1) hb1) y2) hb2
  refine ⟨_, .tuple #[.agg #[.int .i64 (hi (a.fdiv n)), .int .u64 (lo (a.fdiv n))], .agg #[.int .i64 (hi (a.fmod n)), .int .u64 (lo (a.fmod n))], .int .i64 0], rfl, Or.inl ⟨by rfl, fun w' h => (by go_simp)⟩, by simp, ?_⟩
  refine ⟨_, .agg #[.int .i64 (hi (a.fdiv n)), .int .u64 (lo (a.fdiv n))], rfl, Or.inl ⟨by rfl, fun w' h => (by go_simp)⟩, by simp, ?_⟩
  refine ⟨_, .agg #[.int .i64 (hi (a.fmod n)), .int .u64 (lo (a.fmod n))], rfl, Or.inl ⟨by rfl, fun w' h => (by go_simp)⟩, by simp, ?_⟩
  refine ⟨_, .int .i64 0, rfl, Or.inl ⟨by rfl, fun w' h => (by go_simp)⟩, by simp, ?_⟩
  intro a' w' h y
  obtain ⟨s6, s7, rfl⟩ := away2 h
  rintro k k' ⟨hk1, hk2, hk3⟩ ⟨hl1, hl2, hl3⟩ hne hS'
  simp [Act.put] at hk2 hl2
  subst hk2 hl2
  have hk1' : w.heap.size + 2 ≤ k := by rw [← SW.out]; exact hk1
  have hl1' : w.heap.size + 2 ≤ k' := by rw [← SW.out]; exact hl1
  have hkb : Box2 w' k (.int .i64 0) (.int .u64 0) 42 := hk3
  have hlb : Box2 w' k' (.int .i64 0) (.int .u64 0) 42 := hl3
  have k0 := hkb.c0
  have k1 := hkb.c1
  have k2 := hkb.f0
  have k3 := hkb.f1
  have hBq := hkb.set (.int .i64 (hi (a.fdiv n))) (.int .u64 (lo (a.fdiv n)))
  have hBr := hlb.other2 (Ne.symm hne) (.int .i64 (hi (a.fdiv n))) (.int .u64 (lo (a.fdiv n)))
  have hSq : Ext W ((w'.setCell ⟨k, 0, none⟩ (.int .i64 (hi (a.fdiv n)))).setCell ⟨k, 1, none⟩ (.int .u64 (lo (a.fdiv n)))) := (hS'.set hk1).set hk1
  have l0 := hBr.c0
  have l1 := hBr.c1
  have l2 := hBr.f0
  have l3 := hBr.f1
  refine wpOp_of rfl fun K' hK => ?_
  go_simp
  refine hK _ _ ⟨hSq, ?_⟩
  clear hK K'
  refine wpOp_of rfl fun K' hK => ?_
  go_simp
  refine hK _ _ ⟨(hSq.set hl1).set hl1, ?_⟩
  clear hK K'
  refine wpOp_of rfl fun K' hK => ?_
  go_simp
  refine hK _ _ ⟨(hSq.set hl1).set hl1, ?_⟩
  clear hK K'
  refine NoPanic.normal ?_
  go_wp2_with fail
  go_meet
  exact ⟨k, k', rfl, rfl, hk1', hl1', hBq.other2 hne _ _, hBr.set _ _, hR.ext ((hSq.set hl1).set hl1), xw.trans ((hSq.set hl1).set hl1)⟩
 case rest =>
  obtain ⟨k7, k8, rfl, rfl, z7, z8, hQ, hT, hR, xw⟩ := hcut
  rw [HR.out.1] at hT
  have n7 : ¬ k7 = w.heap.size + 1 := by omega
  have n8 : ¬ k8 = w.heap.size + 1 := by omega
  have n9 : ¬ w.heap.size + 1 = k7 := by omega
  have n10 : ¬ w.heap.size + 1 = k8 := by omega
  clear hA SW
  have hQ_0 := hQ.c0; have hQ_1 := hQ.c1; have hT_0 := hT.c0; have hT_1 := hT.c1; have hR_0 := hR.c0; have hR_1 := hR.c1
  have hR_2 := hR.f0; have hR_3 := hR.f1
  go_wp2_with fail
  go_region
  go_wp2_with fail
  refine bodyPost_ret (v := .tuple #[.agg #[.int .i64 (hi (a.fdiv n)), .int .u64 (lo (a.fdiv n))], .int .i64 (a.fmod n), .int .i64 0]) (by simp [results, Tryz.results118, go_sem, hR_0, hR_1]) rfl ⟨rfl, ?_⟩
  exact Ext.drew (Ext.set (Ext.set xw (by omega)) (by omega))
end Go.Proofs.YthoedmikfpbfnaaGreat

namespace Go.Proofs.YthoedmikfpbfnaaGreat
open Go Go.RowKit

def held (k : Nat) (w : World) : Nat :=
 match w.cell? ⟨k, 0, none⟩, w.cell? ⟨k, 1, none⟩ with
 | some (.int _ h), some (.int _ l) => (h * 18446744073709551616 + l).toNat
 | _, _ => 0
theorem held_box {w : World} {k : Nat} {t : TypeId} {n : Nat} (h : Box2 w k (.int .u64 (hi n)) (.int .u64 (lo n)) t) : held k w = n := by
 unfold held
 rw [h.c0, h.c1]
 show ((hi n) * 18446744073709551616 + lo n).toNat = n
 rw [← hi_lo]
 exact Int.toNat_natCast n
theorem gcd_step (b c : Nat) : Nat.gcd b c = Nat.gcd c (b % c) := by rw [Nat.gcd_comm, Nat.gcd_rec, Nat.gcd_comm]
def OverTo (M : Nat) : Prop := ∀ b d : Nat, b ≤ M → 0 < d → d ≤ M → OverC (b : Int) (d : Int)

set_option maxRecDepth 100000 in
set_option maxHeartbeats 1600000 in
theorem dgcd (M b0 c0 : Nat) (w : World) (hb : b0 ≤ M) (hc : c0 ≤ M) (ho : OverTo M) :
  Calls Tryz.prog 94 #[.agg #[.int .u64 (hi b0), .int .u64 (lo b0)], .agg #[.int .u64 (hi c0), .int .u64 (lo c0)]] w
   (fun e w' => e = .returned (.agg #[.int .u64 (hi ((Nat.gcd b0 c0 : Nat) : Int)), .int .u64 (lo ((Nat.gcd b0 c0 : Nat) : Int))]) ∧ Ext w w') := by
 have H1 := Lib.hid ho
 clear ho
 go_enter Tryz.func94, Tryz.ntmps94
 go_wp2_with fail
 obtain ⟨W, hW⟩ : ∃ W, W = ((w.alloc (.cells #[.int .u64 (hi b0), .int .u64 (lo b0)] 139)).alloc (.cells #[.int .u64 (hi c0), .int .u64 (lo c0)] 139)).alloc (.cells #[.int .u64 0, .int .u64 0] 139) := ⟨_, rfl⟩
 rw [← hW]
 have hB : Box2 W w.heap.size (.int .u64 (hi b0)) (.int .u64 (lo b0)) 139 := by rw [hW]; exact ((Box2.new rfl).alloc _).alloc _
 have hC : Box2 W (w.heap.size + 1) (.int .u64 (hi c0)) (.int .u64 (lo c0)) 139 := by rw [hW]; exact (Box2.new (by simp)).alloc _
 have hR : Box2 W (w.heap.size + 1 + 1) (.int .u64 0) (.int .u64 0) 139 := by rw [hW]; exact Box2.new (by simp)
 have xw : Ext w W := by rw [hW]; exact (Ext.refl w).alloc.alloc.alloc
 clear hW
 go_loopw [5] (fun _ wr => ∃ k c : Nat, k ≤ M ∧ c ≤ M ∧ Nat.gcd k c = Nat.gcd b0 c0 ∧ Box2 wr w.heap.size (.int .u64 (hi k)) (.int .u64 (lo k)) 139 ∧
  Box2 wr (w.heap.size + 1) (.int .u64 (hi c)) (.int .u64 (lo c)) 139 ∧ Box2 wr (w.heap.size + 1 + 1) (.int .u64 0) (.int .u64 0) 139 ∧ Ext w wr) (fun _ wr => held (w.heap.size + 1) wr)
 case atStart => exact ⟨b0, c0, hb, hc, rfl, hB, hC, hR, xw⟩
 case round =>
  clear hB hC hR xw hb hc
  obtain ⟨k, c, hk, hc, hg, hB, hC, hR, xw⟩ := hrel
  have HG := Lib.hid hg
  have hm := Lib.hid (held_box hC)
  clear hg
  have hB_0 := hB.c0; have hB_1 := hB.c1; have hC_0 := hC.c0; have hC_1 := hC.c1
  by_cases hc0 : c = 0
  ·have g1 : (hi (c : Int) == 0) = true := by subst hc0; rfl
   have g2 : (lo (c : Int) == 0) = true := by subst hc0; rfl
   have HC0 := Lib.hid hc0
   clear hc0
   have hR_0 := hR.c0; have hR_1 := hR.c1
   have hR_2 := hR.f0; have hR_3 := hR.f1
   go_wp2_with fail
   have hgk : Nat.gcd b0 c0 = k := by rw [← HG.out, HC0.out, Nat.gcd_zero_right]
   refine bodyPost_ret (v := .agg #[.int .u64 (hi (k : Int)), .int .u64 (lo (k : Int))]) (by simp [results, Tryz.results94, go_sem, hR_0, hR_1]) rfl ⟨by rw [hgk], Ext.set (Ext.set xw (by omega)) (by omega)⟩
  ·by_cases hz : hi (c : Int) = 0
   ·have g1 : (hi (c : Int) == 0) = true := by simpa using hz
    have g2 : (lo (c : Int) == 0) = false := by
     simp only [beq_eq_false_iff_ne, ne_eq]; intro h; have := hi_lo (c : Int); omega
    clear hz
    obtain ⟨q, hq⟩ : ∃ q : Nat, q = k / c := ⟨_, rfl⟩
    obtain ⟨r, hr⟩ : ∃ r : Nat, r = k % c := ⟨_, rfl⟩
    have hrc : r < c := by rw [hr]; exact Nat.mod_lt _ (by omega)
    have HQ := Lib.hid (show ((k : Int) / (c : Int)) = (q : Int) by rw [hq]; omega)
    have HS := Lib.hid (show ((k : Int) % (c : Int)) = (r : Int) by rw [hr]; omega)
    have HN := Lib.hid (show Nat.gcd c r = Nat.gcd b0 c0 by rw [hr, ← gcd_step, HG.out])
    clear hq hr
    go_wp2_with fail
    refine (H1.out k c hk (by omega) hc _).mono ?_
    rw [HQ.out, HS.out]
    rintro e w1 ⟨rfl, x1⟩
    clear hB_0 hB_1 hC_0 hC_1
    (first | replace xw := Ext.trans xw x1 | replace xw := Ext.trans (Ext.alloc xw) x1 | replace xw := Ext.trans (Ext.drew xw) x1 | replace xw := Ext.trans (Ext.alloc (Ext.drew xw)) x1); (first | replace hB := hB.ext x1 | replace hB := (hB.alloc _).ext x1 | replace hB := hB.drew.ext x1 | replace hB := (hB.drew.alloc _).ext x1); (first | replace hC := hC.ext x1 | replace hC := (hC.alloc _).ext x1 | replace hC := hC.drew.ext x1 | replace hC := (hC.drew.alloc _).ext x1); (first | replace hR := hR.ext x1 | replace hR := (hR.alloc _).ext x1 | replace hR := hR.drew.ext x1 | replace hR := (hR.drew.alloc _).ext x1)
    have y1 := hR.kind.lt
    obtain ⟨V, hV⟩ : ∃ V, V = (w1.alloc (.cells #[.int .u64 (hi (q : Int)), .int .u64 (lo (q : Int))] 139)).alloc (.cells #[.int .u64 (hi (r : Int)), .int .u64 (lo (r : Int))] 139) := ⟨_, rfl⟩
    have hT : Box2 V (w1.heap.size + 1) (.int .u64 (hi (r : Int))) (.int .u64 (lo (r : Int))) 139 := by rw [hV]; exact Box2.new (by simp)
    replace hB := hB.named2 hV
    replace hC := hC.named2 hV
    replace hR := hR.named2 hV
    replace xw : Ext w V := by rw [hV]; exact Ext.alloc (Ext.alloc xw)
    go_wp2_with fail
    rw [← hV]
    clear hV x1
    have n1 : ¬ w1.heap.size + 1 = w.heap.size := by omega
    have n2 : ¬ w.heap.size = w1.heap.size + 1 := by omega
    have n3 : ¬ w1.heap.size = w.heap.size := by omega
    have n4 : ¬ w.heap.size = w1.heap.size := by omega
    have hB_0 := hB.c0; have hB_1 := hB.c1; have hC_0 := hC.c0; have hC_1 := hC.c1; have hT_0 := hT.c0; have hT_1 := hT.c1
    have hB_2 := hB.f0; have hB_3 := hB.f1; have hC_2 := hC.f0; have hC_3 := hC.f1
    go_region
    have f1 := (hB.set (.int .u64 (hi (c : Int))) (.int .u64 (lo (c : Int)))).other2 (b := w.heap.size + 1) (by omega) (.int .u64 (hi (r : Int))) (.int .u64 (lo (r : Int)))
    have f2 := (hC.other2 (b := w.heap.size) (by omega) (.int .u64 (hi (c : Int))) (.int .u64 (lo (c : Int)))).set (.int .u64 (hi (r : Int))) (.int .u64 (lo (r : Int)))
    have f3 := (hR.other2 (b := w.heap.size) (by omega) (.int .u64 (hi (c : Int))) (.int .u64 (lo (c : Int)))).other2 (b := w.heap.size + 1) (by omega) (.int .u64 (hi (r : Int))) (.int .u64 (lo (r : Int)))
    have f4 : Ext w ((((V.setCell ⟨w.heap.size, 0, none⟩ (.int .u64 (hi (c : Int)))).setCell ⟨w.heap.size, 1, none⟩ (.int .u64 (lo (c : Int)))).setCell ⟨w.heap.size + 1, 0, none⟩ (.int .u64 (hi (r : Int)))).setCell ⟨w.heap.size + 1, 1, none⟩ (.int .u64 (lo (r : Int)))) := Ext.set (Ext.set (Ext.set (Ext.set xw (by omega)) (by omega)) (by omega)) (by omega)
    go_wp2_with fail
    go_roundw
    case rel => exact ⟨c, r, hc, by omega, HN.out, f1.drew, f2.drew, f3.drew, f4.drew⟩
    case measure => rw [hm.out, held_box f2.drew]; exact hrc
   ·have g1 : (hi (c : Int) == 0) = false := by simpa using hz
    clear hz
    obtain ⟨q, hq⟩ : ∃ q : Nat, q = k / c := ⟨_, rfl⟩
    obtain ⟨r, hr⟩ : ∃ r : Nat, r = k % c := ⟨_, rfl⟩
    have hrc : r < c := by rw [hr]; exact Nat.mod_lt _ (by omega)
    have HQ := Lib.hid (show ((k : Int) / (c : Int)) = (q : Int) by rw [hq]; omega)
    have HS := Lib.hid (show ((k : Int) % (c : Int)) = (r : Int) by rw [hr]; omega)
    have HN := Lib.hid (show Nat.gcd c r = Nat.gcd b0 c0 by rw [hr, ← gcd_step, HG.out])
    clear hq hr
    go_wp2_with fail
    refine (H1.out k c hk (by omega) hc _).mono ?_
    rw [HQ.out, HS.out]
    rintro e w1 ⟨rfl, x1⟩
    clear hB_0 hB_1 hC_0 hC_1
    (first | replace xw := Ext.trans xw x1 | replace xw := Ext.trans (Ext.alloc xw) x1 | replace xw := Ext.trans (Ext.drew xw) x1 | replace xw := Ext.trans (Ext.alloc (Ext.drew xw)) x1); (first | replace hB := hB.ext x1 | replace hB := (hB.alloc _).ext x1 | replace hB := hB.drew.ext x1 | replace hB := (hB.drew.alloc _).ext x1); (first | replace hC := hC.ext x1 | replace hC := (hC.alloc _).ext x1 | replace hC := hC.drew.ext x1 | replace hC := (hC.drew.alloc _).ext x1); (first | replace hR := hR.ext x1 | replace hR := (hR.alloc _).ext x1 | replace hR := hR.drew.ext x1 | replace hR := (hR.drew.alloc _).ext x1)
    have y1 := hR.kind.lt
    obtain ⟨V, hV⟩ : ∃ V, V = (w1.alloc (.cells #[.int .u64 (hi (q : Int)), .int .u64 (lo (q : Int))] 139)).alloc (.cells #[.int .u64 (hi (r : Int)), .int .u64 (lo (r : Int))] 139) := ⟨_, rfl⟩
    have hT : Box2 V (w1.heap.size + 1) (.int .u64 (hi (r : Int))) (.int .u64 (lo (r : Int))) 139 := by rw [hV]; exact Box2.new (by simp)
    replace hB := hB.named2 hV
    replace hC := hC.named2 hV
    replace hR := hR.named2 hV
    replace xw : Ext w V := by rw [hV]; exact Ext.alloc (Ext.alloc xw)
    go_wp2_with fail
    rw [← hV]
    clear hV x1
    have n1 : ¬ w1.heap.size + 1 = w.heap.size := by omega
    have n2 : ¬ w.heap.size = w1.heap.size + 1 := by omega
    have n3 : ¬ w1.heap.size = w.heap.size := by omega
    have n4 : ¬ w.heap.size = w1.heap.size := by omega
    have hB_0 := hB.c0; have hB_1 := hB.c1; have hC_0 := hC.c0; have hC_1 := hC.c1; have hT_0 := hT.c0; have hT_1 := hT.c1
    have hB_2 := hB.f0; have hB_3 := hB.f1; have hC_2 := hC.f0; have hC_3 := hC.f1
    go_region
    have f1 := (hB.set (.int .u64 (hi (c : Int))) (.int .u64 (lo (c : Int)))).other2 (b := w.heap.size + 1) (by omega) (.int .u64 (hi (r : Int))) (.int .u64 (lo (r : Int)))
    have f2 := (hC.other2 (b := w.heap.size) (by omega) (.int .u64 (hi (c : Int))) (.int .u64 (lo (c : Int)))).set (.int .u64 (hi (r : Int))) (.int .u64 (lo (r : Int)))
    have f3 := (hR.other2 (b := w.heap.size) (by omega) (.int .u64 (hi (c : Int))) (.int .u64 (lo (c : Int)))).other2 (b := w.heap.size + 1) (by omega) (.int .u64 (hi (r : Int))) (.int .u64 (lo (r : Int)))
    have f4 : Ext w ((((V.setCell ⟨w.heap.size, 0, none⟩ (.int .u64 (hi (c : Int)))).setCell ⟨w.heap.size, 1, none⟩ (.int .u64 (lo (c : Int)))).setCell ⟨w.heap.size + 1, 0, none⟩ (.int .u64 (hi (r : Int)))).setCell ⟨w.heap.size + 1, 1, none⟩ (.int .u64 (lo (r : Int)))) := Ext.set (Ext.set (Ext.set (Ext.set xw (by omega)) (by omega)) (by omega)) (by omega)
    go_wp2_with fail
    go_roundw
    case rel => exact ⟨c, r, hc, by omega, HN.out, f1.drew, f2.drew, f3.drew, f4.drew⟩
    case measure => rw [hm.out, held_box f2.drew]; exact hrc

end Go.Proofs.YthoedmikfpbfnaaGreat

namespace Go.Proofs.YthoedmikfpbfnaaGreat
open Go Go.RowKit

theorem IsZ.named2 {V w : World} {neg : Bool} {sv : Value} {n : Int} {o o' : Obj} (h : IsZ w neg sv n) (e : V = (w.alloc o).alloc o') : IsZ V neg sv n := by rw [e]; exact (h.alloc o).alloc o'
end Go.Proofs.YthoedmikfpbfnaaGreat

namespace Go.Proofs.YthoedmikfpbfnaaGreat
open Go Go.RowKit

end Go.Proofs.YthoedmikfpbfnaaGreat

namespace Go.Proofs.YthoedmikfpbfnaaGreat
open Go Go.RowKit

end Go.Proofs.YthoedmikfpbfnaaGreat
end
section
namespace Go.Proofs.YthoedmikfpbfnaaGreat
open Go Go.RowKit Go.Shelf
attribute [local go_sem] Oper.semAt_some

abbrev Bit := { x : Int // x = 0 ∨ x = 1 }
def bitAt (b : Int) (i : Nat) : Bit := ⟨shr b i % 2, by omega⟩
def bitsOf (b : Int) (k : Nat) : List Bit := (List.range k).map fun j => bitAt b (127 - j)
theorem bitsOf_succ (b : Int) (k : Nat) : bitsOf b (k + 1) = bitsOf b k ++ [bitAt b (127 - k)] := by simp [bitsOf, List.range_succ]

theorem and_one (x : Int) (h0 : 0 ≤ x) (h1 : x < 18446744073709551616) : bits .and .u64 x 1 = x % 2 := by
 obtain ⟨X, rfl⟩ := Int.eq_ofNat_of_zero_le h0
 have h := bits_and_u64_nat X 1 (by omega) (by omega)
 have e : X &&& 1 = X % 2 := Nat.and_two_pow_sub_one_eq_mod X 1
 rw [e] at h
 exact h
theorem shr_lt {x : Int} (h0 : 0 ≤ x) (h1 : x < 18446744073709551616) (s : Nat) : 0 ≤ x / 2 ^ s ∧ x / 2 ^ s < 18446744073709551616 := by
 have := shr_nonneg h0 s
 have := shr_le h0 s
 rw [shr_pow] at *
 omega
theorem bit_hi {b : Int} (hb : U128 b) {k : Nat} (hk : k ≤ 63) : bits .and .u64 (hi b / 2 ^ ((127 - k) % 64)) 1 = (bitAt b (127 - k)).1 := by
 obtain ⟨a2, a3⟩ := hi_U hb
 obtain ⟨c0, c1⟩ := shr_lt a2 a3 ((127 - k) % 64)
 rw [and_one _ c0 c1]
 show _ = shr b (127 - k) % 2
 rw [show 127 - k = 64 + (127 - k) % 64 by omega, shr_add, shr_pow, shr_pow, show (64 + (127 - k) % 64) % 64 = (127 - k) % 64 by omega]
 rfl
theorem lo_bit (b : Int) {s : Nat} (hs : s ≤ 63) : lo b / 2 ^ s % 2 = shr b s % 2 := by
 rw [shr_pow]
 unfold lo
 have e : (18446744073709551616 : Int) = 2 ^ s * (2 * 2 ^ (63 - s)) := by
  rw [show (2 : Int) * 2 ^ (63 - s) = 2 ^ (64 - s) by rw [show 64 - s = (63 - s) + 1 by omega, Int.pow_succ, Int.mul_comm], ← Int.pow_add, show s + (64 - s) = 64 by omega]; rfl
 have hp : (0 : Int) < 2 ^ s := Int.pow_pos (by omega)
 have h1 : b % 18446744073709551616 = b - 18446744073709551616 * (b / 18446744073709551616) := by omega
 rw [h1]
 generalize b / 18446744073709551616 = c
 have h2 : b - 18446744073709551616 * c = b + 2 ^ s * (-(2 * 2 ^ (63 - s) * c)) := by
  conv => lhs; rw [e]
  rw [Int.mul_neg, Int.mul_assoc (2 ^ s)]; rfl
 rw [h2, Int.add_mul_ediv_left _ _ (by omega), Int.mul_assoc]
 generalize 2 ^ (63 - s) * c = d
 generalize b / 2 ^ s = f
 omega
theorem bit_lo {b : Int} {k : Nat} (hk : 64 ≤ k) (hk2 : k ≤ 127) : bits .and .u64 (lo b / 2 ^ ((127 - k) % 64)) 1 = (bitAt b (127 - k)).1 := by
 obtain ⟨a2, a3⟩ := lo_bd b
 obtain ⟨c0, c1⟩ := shr_lt a2 a3 ((127 - k) % 64)
 rw [and_one _ c0 c1, lo_bit _ (by omega)]
 show _ = shr b (127 - k) % 2
 rw [show (127 - k) % 64 = 127 - k by omega]

set_option maxRecDepth 100000 in
set_option maxHeartbeats 1600000 in
theorem down_in (l Bn : Nat) (b : Int) (hb : U128 b) (J Jx : List Bit → World → Prop)
  (hY : ∀ pre (x : Bit) W, J pre W → pre.length < 128 → YieldAt Fence.wide 8 Tryz.prog l #[.int .u64 x.1] W fun e W' =>
   (e = .returned (.bool true) ∧ J (pre ++ [x]) W' ∧ W'.heap[Bn]? = W.heap[Bn]?) ∨ (e = .returned (.bool false) ∧ Jx (pre ++ [x]) W'))
  (W : World) (hB : Box2 W Bn (.int .u64 (hi b)) (.int .u64 (lo b)) 139) (h0 : J [] W) :
  CallsIn Fence.wide 9 Tryz.prog 164 #[.func (.yield l) #[] #[], .pointer (some ⟨Bn, 0, none⟩)] W fun e W' => (∃ v, e = .returned v) ∧
   ((∃ ys, ys = bitsOf b 128 ∧ J ys W') ∨ (∃ pre, pre.length ≤ 128 ∧ Jx pre W')) := by
 obtain ⟨a0, a1⟩ := lo_bd b
 obtain ⟨a2, a3⟩ := hi_U hb
 refine callsIn_of_wp Tryz.func164 rfl trivial ?_ rfl
 simp only [Tryz.ntmps164, List.size_toArray, List.length_cons, List.length_nil, Nat.reduceAdd, Nat.reduceSub, Array.replicate_succ, Array.replicate_zero, List.push_toArray, List.append_toArray, List.nil_append, List.cons_append]
 gi_wp2
 gi_loopw [3, 4] (fun p q wr => ∃ k : Nat, k ≤ 128 ∧ p = .int .i64 (127 - k) ∧ Box2 wr Bn (.int .u64 (hi b)) (.int .u64 (lo b)) 139 ∧ J (bitsOf b k) wr)
  (fun p q wr => (intOf p + 1).toNat)
 case atStart =>
  exact ⟨0, by omega, rfl, hB, h0⟩
 case round =>
  obtain ⟨k, hk, rfl, hBr, hJ⟩ := hrel
  have hc0 := hBr.c0
  have hc1 := hBr.c1
  by_cases hk8 : k = 128
  ·subst hk8
   gi_wp2
   go_end0
   exact ⟨⟨_, rfl⟩, .inl ⟨_, rfl, hJ⟩⟩
  ·obtain ⟨fn, tmps, assign, body, hy, hR⟩ := hY (bitsOf b k) (bitAt b (127 - k)) wr hJ (by simp [bitsOf]; omega)
   by_cases hk6 : k ≤ 63
   ·rw [← bit_hi hb hk6] at hy
    gi_wp2
    refine hR.mono ?_
    rintro e W3 (⟨rfl, hJ3, hk3⟩ | ⟨rfl, hJx3⟩)
    ·gi_wp2
     go_roundw
     case rel => exact ⟨k + 1, by omega, by congr 1; omega, hk3.trans hBr, by rw [bitsOf_succ]; exact hJ3⟩
     case measure => simp [intOf]; omega
    ·gi_wp2
     refine bodyPost_ret (results_none rfl _ _ _) rfl ?_
     exact ⟨⟨_, rfl⟩, .inr ⟨bitsOf b k ++ [bitAt b (127 - k)], by simp [bitsOf]; omega, hJx3⟩⟩
   ·rw [← bit_lo (show 64 ≤ k by omega) (show k ≤ 127 by omega)] at hy
    gi_wp2
    refine hR.mono ?_
    rintro e W3 (⟨rfl, hJ3, hk3⟩ | ⟨rfl, hJx3⟩)
    ·gi_wp2
     go_roundw
     case rel => exact ⟨k + 1, by omega, by congr 1; omega, hk3.trans hBr, by rw [bitsOf_succ]; exact hJ3⟩
     case measure => simp [intOf]; omega
    ·gi_wp2
     refine bodyPost_ret (results_none rfl _ _ _) rfl ?_
     exact ⟨⟨_, rfl⟩, .inr ⟨bitsOf b k ++ [bitAt b (127 - k)], by simp [bitsOf]; omega, hJx3⟩⟩
theorem down_stops (Bn : Nat) (b : Int) (hb : U128 b) (w : World) (hB : Box2 w Bn (.int .u64 (hi b)) (.int .u64 (lo b)) 139) :
  SeqStopsK Fence.wide 9 Tryz.prog 164 #[.pointer (some ⟨Bn, 0, none⟩)] (fun x : Bit => #[Value.int .u64 x.1]) (fun W W' => W'.heap[Bn]? = W.heap[Bn]?) (fun ys => ys = bitsOf b 128) (fun pre => pre.length ≤ 128) 128 w := fun l J Jx W hW _ _ hY h0 =>
 down_in l Bn b hb J Jx hY W (hB.below hW) h0
end Go.Proofs.YthoedmikfpbfnaaGreat

namespace Go.Proofs.YthoedmikfpbfnaaGreat
open Go Go.RowKit

theorem lt_hl (x y : Int) : (decide (hi x < hi y) || (hi x == hi y && decide (lo x < lo y))) = decide (x < y) := by
 have e1 := hi_lo x
 have e2 := hi_lo y
 have l1 := lo_bd x
 have l2 := lo_bd y
 rw [Bool.eq_iff_iff]
 simp only [Bool.or_eq_true, Bool.and_eq_true, decide_eq_true_eq, beq_iff_eq]
 generalize hi x = X at *
 generalize hi y = Y at *
 generalize lo x = x0 at *
 generalize lo y = y0 at *
 omega
set_option maxRecDepth 100000 in
set_option maxHeartbeats 1600000 in
theorem dless (x y : Int) (w : World) :
  Calls Tryz.prog 138 #[.agg #[.int .u64 (hi x), .int .u64 (lo x)], .agg #[.int .u64 (hi y), .int .u64 (lo y)]] w (fun e w' => e = .returned (.bool (decide (x < y))) ∧ w' = (w.alloc (.cells #[.int .u64 (hi x), .int .u64 (lo x)] 139)).alloc (.cells #[.int .u64 (hi y), .int .u64 (lo y)] 139)) := by
 have HE := Lib.hid (lt_hl x y)
 go_enter Tryz.func138, Tryz.ntmps138
 go_wp2
 all_goals
  have he := HE.out
  clear HE
  go_ret
  refine ⟨?_, by simp_all⟩
  rw [← he]
  clear he
  simp_all
set_option maxRecDepth 100000 in
set_option maxHeartbeats 1600000 in
theorem ddown (b : Int) (w : World) :
  Calls Tryz.prog 137 #[.agg #[.int .u64 (hi b), .int .u64 (lo b)]] w (fun e w' => e = .returned (.func (.func 164) #[] #[.pointer (some ⟨w.heap.size, 0, none⟩)]) ∧ w' = w.alloc (.cells #[.int .u64 (hi b), .int .u64 (lo b)] 139)) := by
 go_enter Tryz.func137, Tryz.ntmps137
 go_wp2
 go_ret
 exact ⟨rfl, rfl⟩
end Go.Proofs.YthoedmikfpbfnaaGreat

namespace Go.Proofs.YthoedmikfpbfnaaGreat
open Go Go.RowKit Go.Shelf
attribute [local go_sem] Oper.semAt_some

def valB (xs : List Bit) : Int := xs.foldl (fun v x => 2 * v + x.1) 0
theorem valB_snoc (xs : List Bit) (x : Bit) : valB (xs ++ [x]) = 2 * valB xs + x.1 := by simp [valB]
theorem fold_lt (xs : List Bit) (v : Int) (h0 : 0 ≤ v) (m : Nat) (h1 : v < 2 ^ m) : 0 ≤ xs.foldl (fun v x => 2 * v + x.1) v ∧ xs.foldl (fun v x => 2 * v + x.1) v < 2 ^ (m + xs.length) := by
 induction xs generalizing v m with
 | nil => exact ⟨h0, h1⟩
 | cons x xs ih =>
  have := x.2
  have h := ih (2 * v + x.1) (by omega) (m + 1) (by rw [Int.pow_succ]; omega)
  rw [show m + 1 + xs.length = m + (x :: xs).length by simp; omega] at h
  exact h
theorem valB_lt (xs : List Bit) : 0 ≤ valB xs ∧ valB xs < 2 ^ xs.length := by
 have h := fold_lt xs 0 (by omega) 0 (by decide)
 rw [Nat.zero_add] at h
 exact h
theorem valB_bits {b : Int} (hb : U128 b) (k : Nat) (hk : k ≤ 128) : valB (bitsOf b k) = shr b (128 - k) := by
 induction k with
 | zero =>
  show (0 : Int) = shr b 128
  rw [shr_top hb.1]
  exact hb.2
 | succ k ih =>
  rw [bitsOf_succ, valB_snoc, ih (by omega)]
  show 2 * _ + shr b (127 - k) % 2 = _
  have e := shr_succ b (127 - k)
  rw [show 128 - k = 127 - k + 1 by omega, e, show 128 - (k + 1) = 127 - k by omega]
  omega
theorem valB_all {b : Int} (hb : U128 b) : valB (bitsOf b 128) = b := by rw [valB_bits hb 128 (by omega)]; exact shr_zero b

theorem box_own {β : Type} (k : Nat) (t : TypeId) (f g : β → Value) : Go.Own (fun s W => Box2 W k (f s) (g s) t) := fun _ _ _ _ hs hg hr =>
 (grownBy_keeps_cells hg hr hs rfl).trans hs

theorem twice_hi {r x : Int} (r0 : 0 ≤ r) (hx : x = 0 ∨ x = 1) (h : 2 * r + x < 340282366920938463463374607431768211456) : bits .or .u64 (IntKind.u64.wrap (hi r * 2)) (lo r / 9223372036854775808) = hi (2 * r + x) := by
 have e := or_add (hi r) (lo r / 9223372036854775808) 1
 rw [show (2 : Int) ^ 1 = 2 from rfl] at e
 rw [u64_id (by unfold hi; omega) (by unfold hi; omega), e (by unfold hi; omega) (by unfold lo; omega) (by unfold hi; omega) (by unfold lo; omega) (by unfold hi lo; omega)]
 unfold hi lo
 omega
theorem twice_lo (r : Int) {x : Int} (hx : x = 0 ∨ x = 1) : bits .or .u64 (IntKind.u64.wrap (lo r * 2)) x = lo (2 * r + x) := by
 have e := or_add (lo r % 9223372036854775808) x 1
 rw [show (2 : Int) ^ 1 = 2 from rfl] at e
 rw [show IntKind.u64.wrap (lo r * 2) = lo r % 9223372036854775808 * 2 by rw [u64_eq]; omega, e (by omega) (by omega) (by omega) (by omega) (by omega)]
 unfold lo
 omega
theorem twice_low (q : Int) : IntKind.u64.wrap (lo q * 2) = lo (2 * q) := by rw [u64_eq]; unfold lo; omega
theorem twice_odd (q : Int) : bits .or .u64 (lo (2 * q)) 1 = lo (2 * q + 1) := by
 have e := or_add (lo (2 * q) / 2) 1 1
 rw [show (2 : Int) ^ 1 = 2 from rfl, show lo (2 * q) / 2 * 2 = lo (2 * q) by unfold lo; omega] at e
 have := lo_bd (2 * q)
 rw [e (by omega) (by omega) (by omega) (by omega) (by unfold lo; omega)]
 unfold lo
 omega
theorem valB_pre {pre : List Bit} (h : pre.length < 128) : 0 ≤ valB pre ∧ valB pre < 170141183460469231731687303715884105728 := by
 obtain ⟨h0, h1⟩ := valB_lt pre
 have h2 : ((2 ^ pre.length : Nat) : Int) ≤ ((2 ^ 127 : Nat) : Int) := Int.ofNat_le.2 (Nat.pow_le_pow_right (by omega) (by omega))
 rw [Int.natCast_pow] at h2
 have h3 : (2 : Int) ^ pre.length ≤ 170141183460469231731687303715884105728 := h2
 omega
theorem over_step {P d x : Int} (d0 : 18446744073709551616 ≤ d) (d1 : d ≤ 170141183460469231731687303715884105728) (P0 : 0 ≤ P) (P1 : P < 170141183460469231731687303715884105728) (hx : x = 0 ∨ x = 1) :
  0 ≤ P % d ∧ 2 * (P % d) + x < 340282366920938463463374607431768211456 ∧ 0 ≤ P / d ∧ 2 * (P / d) + 1 < 340282366920938463463374607431768211456 ∧
   (if 2 * (P % d) + x < d then (2 * P + x) / d = 2 * (P / d) ∧ (2 * P + x) % d = 2 * (P % d) + x else (2 * P + x) / d = 2 * (P / d) + 1 ∧ (2 * P + x) % d = 2 * (P % d) + x - d) := by
 have e := Int.emod_add_mul_ediv P d
 have r0 := Int.emod_nonneg P (show d ≠ 0 by omega)
 have r1 := Int.emod_lt_of_pos P (show 0 < d by omega)
 have q0 : 0 ≤ P / d := Int.ediv_nonneg P0 (by omega)
 have q1 : P / d ≤ P := Int.ediv_le_self _ P0
 generalize P / d = q at *
 generalize P % d = r at *
 refine ⟨r0, by omega, q0, by omega, ?_⟩
 have key : ∀ q' r' : Int, 2 * P + x = r' + d * q' → 0 ≤ r' → r' < d → (2 * P + x) / d = q' ∧ (2 * P + x) % d = r' := by
  intro q' r' h h0 h1
  rw [h]
  exact ⟨by rw [Int.add_mul_ediv_left _ _ (by omega), Int.ediv_eq_zero_of_lt h0 h1]; omega, by rw [Int.add_mul_emod_self_left, Int.emod_eq_of_lt h0 h1]⟩
 have m : d * (2 * q) = 2 * (d * q) := by rw [← Int.mul_assoc, Int.mul_comm d 2, Int.mul_assoc]
 split
 ·exact key _ _ (by rw [m]; omega) (by omega) (by omega)
 ·exact key _ _ (by rw [Int.mul_add, m]; omega) (by omega) (by omega)

def OverJ (w : World) (b d q r : Int) (W : World) : Prop :=
 Box2 W (w.heap.size + 1 + 1 + 1 + 1) (.int .u64 (hi q)) (.int .u64 (lo q)) 139 ∧
 Box2 W (w.heap.size + 1 + 1 + 1 + 1 + 1) (.int .u64 (hi r)) (.int .u64 (lo r)) 139 ∧
 Box2 W (w.heap.size + 1) (.int .u64 (hi d)) (.int .u64 (lo d)) 139 ∧
 Box2 W (w.heap.size + 1 + 1) (.int .u64 0) (.int .u64 0) 139 ∧ Box2 W (w.heap.size + 1 + 1 + 1) (.int .u64 0) (.int .u64 0) 139 ∧
 Box2 W (w.heap.size + 1 + 1 + 1 + 1 + 1 + 1) (.int .u64 (hi b)) (.int .u64 (lo b)) 139
def OverI (w : World) (b d : Int) (pre : List Bit) (W : World) : Prop := OverJ w b d (valB pre / d) (valB pre % d) W
theorem overI_own (w : World) (b d : Int) : Go.Own (OverI w b d) := fun s X Y row hs hg hr =>
 ⟨box_own _ _ (fun pre => .int .u64 (hi (valB pre / d))) (fun pre => .int .u64 (lo (valB pre / d))) s X Y row hs.1 hg hr,
  box_own _ _ (fun pre => .int .u64 (hi (valB pre % d))) (fun pre => .int .u64 (lo (valB pre % d))) s X Y row hs.2.1 hg hr,
  box_own _ _ (fun _ => .int .u64 (hi d)) (fun _ => .int .u64 (lo d)) s X Y row hs.2.2.1 hg hr,
  box_own _ _ (fun _ => .int .u64 0) (fun _ => .int .u64 0) s X Y row hs.2.2.2.1 hg hr,
  box_own _ _ (fun _ => .int .u64 0) (fun _ => .int .u64 0) s X Y row hs.2.2.2.2.1 hg hr,
  box_own _ _ (fun _ => .int .u64 (hi b)) (fun _ => .int .u64 (lo b)) s X Y row hs.2.2.2.2.2 hg hr⟩
theorem OverJ.alloc {w W : World} {b d q r : Int} (h : OverJ w b d q r W) (o : Obj) : OverJ w b d q r (W.alloc o) :=
 ⟨h.1.alloc o, h.2.1.alloc o, h.2.2.1.alloc o, h.2.2.2.1.alloc o, h.2.2.2.2.1.alloc o, h.2.2.2.2.2.alloc o⟩
theorem OverJ.setR {w W : World} {b d q r : Int} (h : OverJ w b d q r W) (x : Int) : OverJ w b d q x ((W.setCell ⟨w.heap.size + 1 + 1 + 1 + 1 + 1, 0, none⟩ (.int .u64 (hi x))).setCell ⟨w.heap.size + 1 + 1 + 1 + 1 + 1, 1, none⟩ (.int .u64 (lo x))) :=
 ⟨h.1.other2 (by omega) _ _, h.2.1.set _ _, h.2.2.1.other2 (by omega) _ _, h.2.2.2.1.other2 (by omega) _ _, h.2.2.2.2.1.other2 (by omega) _ _, h.2.2.2.2.2.other2 (by omega) _ _⟩
theorem OverJ.setQ {w W : World} {b d q r : Int} (h : OverJ w b d q r W) (x : Int) : OverJ w b d x r ((W.setCell ⟨w.heap.size + 1 + 1 + 1 + 1, 0, none⟩ (.int .u64 (hi x))).setCell ⟨w.heap.size + 1 + 1 + 1 + 1, 1, none⟩ (.int .u64 (lo x))) :=
 ⟨h.1.set _ _, h.2.1.other2 (by omega) _ _, h.2.2.1.other2 (by omega) _ _, h.2.2.2.1.other2 (by omega) _ _, h.2.2.2.2.1.other2 (by omega) _ _, h.2.2.2.2.2.other2 (by omega) _ _⟩
theorem OverJ.odd {w W : World} {b d q r : Int} (h : OverJ w b d (2 * q) r W) : OverJ w b d (2 * q + 1) r (W.setCell ⟨w.heap.size + 1 + 1 + 1 + 1, 1, none⟩ (.int .u64 (lo (2 * q + 1)))) := by
 refine ⟨?_, h.2.1.other (by omega) _ _, h.2.2.1.other (by omega) _ _, h.2.2.2.1.other (by omega) _ _, h.2.2.2.2.1.other (by omega) _ _, h.2.2.2.2.2.other (by omega) _ _⟩
 have e : hi (2 * q + 1) = hi (2 * q) := by unfold hi; omega
 rw [e]
 exact Joins.block_setCell (i := 1) h.1 _
theorem overI_nil {w V : World} {b d : Int} (hQ : Box2 V (w.heap.size + 1 + 1 + 1 + 1) (.int .u64 0) (.int .u64 0) 139) (hR : Box2 V (w.heap.size + 1 + 1 + 1 + 1 + 1) (.int .u64 0) (.int .u64 0) 139)
  (hD : Box2 V (w.heap.size + 1) (.int .u64 (hi d)) (.int .u64 (lo d)) 139) (h4 : Box2 V (w.heap.size + 1 + 1) (.int .u64 0) (.int .u64 0) 139) (h5 : Box2 V (w.heap.size + 1 + 1 + 1) (.int .u64 0) (.int .u64 0) 139)
  (hX : Box2 V (w.heap.size + 1 + 1 + 1 + 1 + 1 + 1) (.int .u64 (hi b)) (.int .u64 (lo b)) 139) : OverI w b d [] V := by
 have e1 : valB [] / d = 0 := Int.zero_ediv d
 have e2 : valB [] % d = 0 := Int.zero_emod d
 refine ⟨?_, ?_, hD, h4, h5, hX⟩
 ·rw [e1]; exact hQ
 ·rw [e2]; exact hR

theorem hi_pair {x d : Int} (d1 : d ≤ 170141183460469231731687303715884105728) (h : x < 340282366920938463463374607431768211456) (hl : ¬ x < d) (d0 : 18446744073709551616 ≤ d) :
  0 ≤ hi x ∧ hi x < 18446744073709551616 ∧ 0 ≤ hi d ∧ hi d < 18446744073709551616 := by unfold hi; omega
theorem sub_hi (x d : Int) (h0 : 0 ≤ hi x) (h1 : hi x < 18446744073709551616) (h2 : 0 ≤ hi d) (h3 : hi d < 18446744073709551616) (hl : ¬ x < d) : (hi x - hi d - bor (lo x) (lo d) 0) % 18446744073709551616 = hi (x - d) := by
 rw [bor_def]; unfold hi lo at *; omega
set_option maxRecDepth 100000 in
set_option maxHeartbeats 3200000 in
theorem over_great (b d : Int) (w : World) (hb : U128 b) (d0 : 18446744073709551616 ≤ d) (d1 : d ≤ 170141183460469231731687303715884105728) :
  Calls Tryz.prog 95 #[.agg #[.int .u64 (hi b), .int .u64 (lo b)], .agg #[.int .u64 (hi d), .int .u64 (lo d)]] w (RetB w (b / d) (b % d)) := by
 obtain ⟨W0, hW0⟩ : ∃ W0, W0 = (((((w.alloc (.cells #[.int .u64 (hi b), .int .u64 (lo b)] 139)).alloc (.cells #[.int .u64 (hi d), .int .u64 (lo d)] 139)).alloc (.cells #[.int .u64 0, .int .u64 0] 139)).alloc (.cells #[.int .u64 0, .int .u64 0] 139)).alloc (.cells #[.int .u64 0, .int .u64 0] 139)).alloc (.cells #[.int .u64 0, .int .u64 0] 139) := ⟨_, rfl⟩
 have hd : (hi d == 0) = false := by rw [beq_eq_false_iff_ne]; unfold hi; omega
 have HB := Lib.hid hb
 have HD0 := Lib.hid d0
 have HD1 := Lib.hid d1
 clear hb d0 d1
 refine (callsIn_wide (n := 10)).1 ?_
 refine callsIn_of_wp_marks Tryz.func95 rfl trivial ?_ rfl
 simp only [Tryz.ntmps95, List.size_toArray, List.length_cons, List.length_nil, Nat.reduceAdd, Nat.reduceSub, Array.replicate_succ, Array.replicate_zero, List.push_toArray, List.append_toArray, List.nil_append, List.cons_append]
 obtain ⟨z, hz⟩ : ∃ z, (hi b == 0) = z := ⟨_, rfl⟩
 cases z
 ·gi_wp2_with (refine ⟨trivial, ?_⟩; gi_at_call 137; refine (callsIn_wide.2 (ddown b _)).mono ?_; rintro e w' ⟨rfl, rfl⟩)
  rw [← hW0]
  obtain ⟨V, hV⟩ : ∃ V, V = W0.alloc (.cells #[.int .u64 (hi b), .int .u64 (lo b)] 139) := ⟨_, rfl⟩
  have hX : Box2 V (w.heap.size + 1 + 1 + 1 + 1 + 1 + 1) (.int .u64 (hi b)) (.int .u64 (lo b)) 139 := by rw [hV]; exact Box2.new (by rw [hW0]; simp)
  have hD : Box2 V (w.heap.size + 1) (.int .u64 (hi d)) (.int .u64 (lo d)) 139 := by rw [hV, hW0]; exact (((((Box2.new (by simp)).alloc _).alloc _).alloc _).alloc _).alloc _
  have h4 : Box2 V (w.heap.size + 1 + 1) (.int .u64 0) (.int .u64 0) 139 := by rw [hV, hW0]; exact ((((Box2.new (by simp)).alloc _).alloc _).alloc _).alloc _
  have h5 : Box2 V (w.heap.size + 1 + 1 + 1) (.int .u64 0) (.int .u64 0) 139 := by rw [hV, hW0]; exact (((Box2.new (by simp)).alloc _).alloc _).alloc _
  have hQ : Box2 V (w.heap.size + 1 + 1 + 1 + 1) (.int .u64 0) (.int .u64 0) 139 := by rw [hV, hW0]; exact ((Box2.new (by simp)).alloc _).alloc _
  have hR : Box2 V (w.heap.size + 1 + 1 + 1 + 1 + 1) (.int .u64 0) (.int .u64 0) 139 := by rw [hV, hW0]; exact (Box2.new (by simp)).alloc _
  have xw : Ext w V := by rw [hV, hW0]; exact (Ext.refl w).alloc.alloc.alloc.alloc.alloc.alloc.alloc
  have sV : V.heap.size = w.heap.size + 7 := by rw [hV, hW0]; simp
  try rw [hW0, ← hV]
  try rw [← hV]
  clear hV hW0 W0
  refine wpIn_rangeFunc_ownF rfl (by omega) (gf := 164) (lb := #[.pointer (some ⟨w.heap.size + 1 + 1 + 1 + 1 + 1 + 1, 0, none⟩)]) rfl trivial (enters_of Tryz.func164 (by kernel_rfl) rfl)
   (down_stops (w.heap.size + 1 + 1 + 1 + 1 + 1 + 1) b HB.out V hX) (fun h k => k.trans h)
   (fun W l o o' hl h _ _ => (grownBy_putObj' W l o').block _ (by have := (Array.getElem?_eq_some_iff.1 h).1; omega) (fun e => by cases e; omega)) (Below.refl _ _) (fun _ => rfl)
   (fun pre W => OverI w b d pre W ∧ Below w.heap.size w W)
   (fun _ _ _ => False)
   (OwnFrom.and (Own.from (overI_own w b d) _) (ownFrom_below (Nat.le_refl _) (by rw [sV]; omega)))
   (fun _ _ _ _ _ hs _ _ => hs)
   ⟨overI_nil hQ hR hD h4 h5 hX, xw⟩ ?actA ?assignA ?bodyA ?doneA ?stopA
  case assignA =>
   intro l x W K hK
   gi_wp2
   exact hK
  case bodyA =>
   rintro l pre x W ⟨hJ, hBl⟩ hlt
   have hx := x.2
   obtain ⟨P0, P1⟩ := valB_pre hlt
   obtain ⟨r0, r1, q0, q1, hST⟩ := over_step (x := x.1) HD0.out HD1.out P0 P1 hx
   have HN := Lib.hid (valB_snoc pre x)
   have HST := Lib.hid hST
   have hXX : W.heap[w.heap.size + 1 + 1 + 1 + 1 + 1 + 1]? = _ := hJ.2.2.2.2.2
   clear hST P0 P1
   unfold OverI at hJ
   generalize valB pre / d = q at *
   generalize valB pre % d = r at *
   generalize x.1 = v at *
   have E1 := Lib.hid (twice_hi r0 hx r1)
   have E2 := Lib.hid (twice_lo r hx)
   have E3 := Lib.hid (twice_hi (x := 0) q0 (.inl rfl) (by omega))
   have E4 := Lib.hid (twice_low q)
   have E5 := Lib.hid (twice_odd q)
   have A1 := Lib.hid r1
   clear r1 q1 q0 r0 hx
   obtain ⟨hQ, hR, hD, h45⟩ := hJ
   have hQ_0 := hQ.c0; have hQ_1 := hQ.c1; have hR_0 := hR.c0; have hR_1 := hR.c1; have hD_0 := hD.c0; have hD_1 := hD.c1
   have hQ_2 := hQ.f0; have hQ_3 := hQ.f1; have hR_2 := hR.f0; have hR_3 := hR.f1
   gi_wp2
   clear hQ_0 hQ_1 hR_0 hR_1 hD_0 hD_1
   clear hQ_2 hQ_3 hR_2 hR_3
   rw [E1.out, E2.out, E3.out, E4.out, Int.add_zero]
   obtain ⟨W2, hW2⟩ : ∃ W2, W2 = (((W.setCell ⟨w.heap.size + 1 + 1 + 1 + 1 + 1, 0, none⟩ (.int .u64 (hi (2 * r + v)))).setCell ⟨w.heap.size + 1 + 1 + 1 + 1 + 1, 1, none⟩ (.int .u64 (lo (2 * r + v)))).setCell ⟨w.heap.size + 1 + 1 + 1 + 1, 0, none⟩ (.int .u64 (hi (2 * q)))).setCell ⟨w.heap.size + 1 + 1 + 1 + 1, 1, none⟩ (.int .u64 (lo (2 * q))) := ⟨_, rfl⟩
   rw [← hW2]
   have hJ : OverJ w b d (2 * q) (2 * r + v) W2 := by rw [hW2]; exact (OverJ.setR ⟨hQ, hR, hD, h45⟩ _).setQ _
   have hKO : KeepsOthers W W2 := by rw [hW2]; exact (((KeepsOthers.setCell _ _ _).trans (KeepsOthers.setCell _ _ _)).trans (KeepsOthers.setCell _ _ _)).trans (KeepsOthers.setCell _ _ _)
   replace hBl : Below w.heap.size w W2 := by rw [hW2]; exact below_set2 (below_set2 hBl (by omega) _ _) (by omega) _ _
   clear hW2 hQ hR hD h45
   refine ⟨trivial, (CallsIn.inRound l (callsIn_wide.2 (dless (2 * r + v) d W2))).mono ?_⟩
   rintro e w3 ⟨rfl, rfl⟩
   obtain ⟨W3, hW3⟩ : ∃ W3, W3 = (W2.alloc (.cells #[.int .u64 (hi (2 * r + v)), .int .u64 (lo (2 * r + v))] 139)).alloc (.cells #[.int .u64 (hi d), .int .u64 (lo d)] 139) := ⟨_, rfl⟩
   rw [← hW3]
   replace hJ : OverJ w b d (2 * q) (2 * r + v) W3 := by rw [hW3]; exact (hJ.alloc _).alloc _
   replace hKO : KeepsOthers W W3 := by rw [hW3]; exact (hKO.trans (KeepsOthers.alloc _ _)).trans (KeepsOthers.alloc _ _)
   replace hBl : Below w.heap.size w W3 := by rw [hW3]; exact (hBl.alloc hBl.size _).alloc (Nat.le_trans hBl.size (by simp)) _
   clear hW3
   by_cases hl : 2 * r + v < d
   ·rw [decide_eq_true hl]
    gi_wp2
    have hst := HST.out
    rw [if_pos hl, ← HN.out] at hst
    refine ⟨hKO, hJ.2.2.2.2.2.trans hXX.symm, ?_, hBl⟩
    unfold OverI
    rw [hst.1, hst.2]
    exact hJ
   ·rw [decide_eq_false hl]
    obtain ⟨hQ, hR, hD, h45⟩ := hJ
    have hQ_0 := hQ.c0; have hQ_1 := hQ.c1; have hR_0 := hR.c0; have hR_1 := hR.c1; have hD_0 := hD.c0; have hD_1 := hD.c1
    have hQ_2 := hQ.f0; have hQ_3 := hQ.f1; have hR_2 := hR.f0; have hR_3 := hR.f1
    have r102 := run_sub64'
    obtain ⟨l0, l1⟩ := lo_bd (2 * r + v)
    obtain ⟨l2, l3⟩ := lo_bd d
    obtain ⟨m0, m1, m2, m3⟩ := hi_pair HD1.out A1.out hl HD0.out
    have c0 : 0 ≤ bor (lo (2 * r + v)) (lo d) 0 := by rw [bor_def]; omega
    have c1 : bor (lo (2 * r + v)) (lo d) 0 ≤ 1 := by rw [bor_def]; omega
    gi_wp2
    refine ⟨trivial, ?_⟩
    gi_wp2
    refine ⟨trivial, ?_⟩
    gi_wp2
    clear r102
    rw [sub_hi _ _ m0 m1 m2 m3 (by omega), ← lo_sub, E5.out]
    have hst := HST.out
    rw [if_neg (by omega), ← HN.out] at hst
    have hJ' := (OverJ.setR ⟨hQ, hR, hD, h45⟩ (2 * r + v - d)).odd
    refine ⟨((hKO.trans (KeepsOthers.setCell _ _ _)).trans (KeepsOthers.setCell _ _ _)).trans (KeepsOthers.setCell _ _ _), hJ'.2.2.2.2.2.trans hXX.symm, ?_, (below_set2 hBl (by omega) _ _).setCell (p := ⟨_, 1, none⟩) (by simp; omega) _⟩
    unfold OverI
    rw [hst.1, hst.2]
    exact hJ'
  case doneA =>
   rintro D ys W hD' rfl ⟨⟨hQ, hR, hD, h4, h5, hX⟩, hBl⟩ hK
   rw [valB_all HB.out] at hQ hR
   generalize b / d = q at *
   generalize b % d = r at *
   have hQ_0 := hQ.c0; have hQ_1 := hQ.c1; have hR_0 := hR.c0; have hR_1 := hR.c1; have h4_0 := h4.c0; have h4_1 := h4.c1; have h5_0 := h5.c0; have h5_1 := h5.c1
   have hQ_2 := hQ.f0; have hQ_3 := hQ.f1; have hR_2 := hR.f0; have hR_3 := hR.f1; have h4_2 := h4.f0; have h4_3 := h4.f1; have h5_2 := h5.f0; have h5_3 := h5.f1
   gi_wp2
   gi_region
   gi_wp2
   obtain ⟨U, hU⟩ : ∃ U, U = ((((W.setCell ⟨w.heap.size + 1 + 1, 0, none⟩ (.int .u64 (hi q))).setCell ⟨w.heap.size + 1 + 1, 1, none⟩ (.int .u64 (lo q))).setCell ⟨w.heap.size + 1 + 1 + 1, 0, none⟩ (.int .u64 (hi r))).setCell ⟨w.heap.size + 1 + 1 + 1, 1, none⟩ (.int .u64 (lo r))).drew := ⟨_, rfl⟩
   rw [← hU]
   have k4 : Box2 U (w.heap.size + 1 + 1) (.int .u64 (hi q)) (.int .u64 (lo q)) 139 := by rw [hU]; exact ((h4.set _ _).other2 (by omega) _ _).drew
   have k5 : Box2 U (w.heap.size + 1 + 1 + 1) (.int .u64 (hi r)) (.int .u64 (lo r)) 139 := by rw [hU]; exact ((h5.other2 (by omega) _ _).set _ _).drew
   have hKU : U.heap[D]? = some (.deferred (some [])) := by
    rw [hU]
    exact (((((KeepsOthers.setCell _ _ _).trans (KeepsOthers.setCell _ _ _)).trans (KeepsOthers.setCell _ _ _)).trans (KeepsOthers.setCell _ _ _)).trans (KeepsOthers.drew _)).same D _ hK rfl
   have hBU : Ext w U := by rw [hU]; exact Ext.drew (below_set2 (below_set2 hBl (by omega) _ _) (by omega) _ _)
   clear hU
   refine ⟨by simp, .inl ⟨_, _, rfl, run_takeDeferred hKU, ?_⟩⟩
   have g4 : Box2 (U.putObj D (.deferred none)) (w.heap.size + 1 + 1) (.int .u64 (hi q)) (.int .u64 (lo q)) 139 := (grownBy_keeps_cells (grownBy_putObj' _ D (.deferred none)) (fun r e => by cases e; exact ⟨_, hKU, rfl⟩) k4 rfl).trans k4
   have g5 : Box2 (U.putObj D (.deferred none)) (w.heap.size + 1 + 1 + 1) (.int .u64 (hi r)) (.int .u64 (lo r)) 139 := (grownBy_keeps_cells (grownBy_putObj' _ D (.deferred none)) (fun r e => by cases e; exact ⟨_, hKU, rfl⟩) k5 rfl).trans k5
   have g6 := g4.c0
   have g7 := g4.c1
   have g8 := g5.c0
   have g9 := g5.c1
   refine ⟨.tuple #[.agg #[.int .u64 (hi q), .int .u64 (lo q)], .agg #[.int .u64 (hi r), .int .u64 (lo r)]], ?_, rfl, Below.trans hBU (belowK_b (w := w) (Nat.le_refl _) U D _ _ (by omega) hKU rfl rfl)⟩
   simp [results, Tryz.results95, go_sem, g6, g7, g8, g9]
  case stopA =>
   rintro D c pre W _ _ h _
   exact h.elim
 ·gi_wp2_with (refine ⟨trivial, ?_⟩; gi_at_call 137; refine (callsIn_wide.2 (ddown b _)).mono ?_; rintro e w' ⟨rfl, rfl⟩)
  rw [← hW0]
  obtain ⟨V, hV⟩ : ∃ V, V = W0.alloc (.cells #[.int .u64 (hi b), .int .u64 (lo b)] 139) := ⟨_, rfl⟩
  have hX : Box2 V (w.heap.size + 1 + 1 + 1 + 1 + 1 + 1) (.int .u64 (hi b)) (.int .u64 (lo b)) 139 := by rw [hV]; exact Box2.new (by rw [hW0]; simp)
  have hD : Box2 V (w.heap.size + 1) (.int .u64 (hi d)) (.int .u64 (lo d)) 139 := by rw [hV, hW0]; exact (((((Box2.new (by simp)).alloc _).alloc _).alloc _).alloc _).alloc _
  have h4 : Box2 V (w.heap.size + 1 + 1) (.int .u64 0) (.int .u64 0) 139 := by rw [hV, hW0]; exact ((((Box2.new (by simp)).alloc _).alloc _).alloc _).alloc _
  have h5 : Box2 V (w.heap.size + 1 + 1 + 1) (.int .u64 0) (.int .u64 0) 139 := by rw [hV, hW0]; exact (((Box2.new (by simp)).alloc _).alloc _).alloc _
  have hQ : Box2 V (w.heap.size + 1 + 1 + 1 + 1) (.int .u64 0) (.int .u64 0) 139 := by rw [hV, hW0]; exact ((Box2.new (by simp)).alloc _).alloc _
  have hR : Box2 V (w.heap.size + 1 + 1 + 1 + 1 + 1) (.int .u64 0) (.int .u64 0) 139 := by rw [hV, hW0]; exact (Box2.new (by simp)).alloc _
  have xw : Ext w V := by rw [hV, hW0]; exact (Ext.refl w).alloc.alloc.alloc.alloc.alloc.alloc.alloc
  have sV : V.heap.size = w.heap.size + 7 := by rw [hV, hW0]; simp
  try rw [hW0, ← hV]
  try rw [← hV]
  clear hV hW0 W0
  refine wpIn_rangeFunc_ownF rfl (by omega) (gf := 164) (lb := #[.pointer (some ⟨w.heap.size + 1 + 1 + 1 + 1 + 1 + 1, 0, none⟩)]) rfl trivial (enters_of Tryz.func164 (by kernel_rfl) rfl)
   (down_stops (w.heap.size + 1 + 1 + 1 + 1 + 1 + 1) b HB.out V hX) (fun h k => k.trans h)
   (fun W l o o' hl h _ _ => (grownBy_putObj' W l o').block _ (by have := (Array.getElem?_eq_some_iff.1 h).1; omega) (fun e => by cases e; omega)) (Below.refl _ _) (fun _ => rfl)
   (fun pre W => OverI w b d pre W ∧ Below w.heap.size w W)
   (fun _ _ _ => False)
   (OwnFrom.and (Own.from (overI_own w b d) _) (ownFrom_below (Nat.le_refl _) (by rw [sV]; omega)))
   (fun _ _ _ _ _ hs _ _ => hs)
   ⟨overI_nil hQ hR hD h4 h5 hX, xw⟩ ?actB ?assignB ?bodyB ?doneB ?stopB
  case assignB =>
   intro l x W K hK
   gi_wp2
   exact hK
  case bodyB =>
   rintro l pre x W ⟨hJ, hBl⟩ hlt
   have hx := x.2
   obtain ⟨P0, P1⟩ := valB_pre hlt
   obtain ⟨r0, r1, q0, q1, hST⟩ := over_step (x := x.1) HD0.out HD1.out P0 P1 hx
   have HN := Lib.hid (valB_snoc pre x)
   have HST := Lib.hid hST
   have hXX : W.heap[w.heap.size + 1 + 1 + 1 + 1 + 1 + 1]? = _ := hJ.2.2.2.2.2
   clear hST P0 P1
   unfold OverI at hJ
   generalize valB pre / d = q at *
   generalize valB pre % d = r at *
   generalize x.1 = v at *
   have E1 := Lib.hid (twice_hi r0 hx r1)
   have E2 := Lib.hid (twice_lo r hx)
   have E3 := Lib.hid (twice_hi (x := 0) q0 (.inl rfl) (by omega))
   have E4 := Lib.hid (twice_low q)
   have E5 := Lib.hid (twice_odd q)
   have A1 := Lib.hid r1
   clear r1 q1 q0 r0 hx
   obtain ⟨hQ, hR, hD, h45⟩ := hJ
   have hQ_0 := hQ.c0; have hQ_1 := hQ.c1; have hR_0 := hR.c0; have hR_1 := hR.c1; have hD_0 := hD.c0; have hD_1 := hD.c1
   have hQ_2 := hQ.f0; have hQ_3 := hQ.f1; have hR_2 := hR.f0; have hR_3 := hR.f1
   gi_wp2
   clear hQ_0 hQ_1 hR_0 hR_1 hD_0 hD_1
   clear hQ_2 hQ_3 hR_2 hR_3
   rw [E1.out, E2.out, E3.out, E4.out, Int.add_zero]
   obtain ⟨W2, hW2⟩ : ∃ W2, W2 = (((W.setCell ⟨w.heap.size + 1 + 1 + 1 + 1 + 1, 0, none⟩ (.int .u64 (hi (2 * r + v)))).setCell ⟨w.heap.size + 1 + 1 + 1 + 1 + 1, 1, none⟩ (.int .u64 (lo (2 * r + v)))).setCell ⟨w.heap.size + 1 + 1 + 1 + 1, 0, none⟩ (.int .u64 (hi (2 * q)))).setCell ⟨w.heap.size + 1 + 1 + 1 + 1, 1, none⟩ (.int .u64 (lo (2 * q))) := ⟨_, rfl⟩
   rw [← hW2]
   have hJ : OverJ w b d (2 * q) (2 * r + v) W2 := by rw [hW2]; exact (OverJ.setR ⟨hQ, hR, hD, h45⟩ _).setQ _
   have hKO : KeepsOthers W W2 := by rw [hW2]; exact (((KeepsOthers.setCell _ _ _).trans (KeepsOthers.setCell _ _ _)).trans (KeepsOthers.setCell _ _ _)).trans (KeepsOthers.setCell _ _ _)
   replace hBl : Below w.heap.size w W2 := by rw [hW2]; exact below_set2 (below_set2 hBl (by omega) _ _) (by omega) _ _
   clear hW2 hQ hR hD h45
   refine ⟨trivial, (CallsIn.inRound l (callsIn_wide.2 (dless (2 * r + v) d W2))).mono ?_⟩
   rintro e w3 ⟨rfl, rfl⟩
   obtain ⟨W3, hW3⟩ : ∃ W3, W3 = (W2.alloc (.cells #[.int .u64 (hi (2 * r + v)), .int .u64 (lo (2 * r + v))] 139)).alloc (.cells #[.int .u64 (hi d), .int .u64 (lo d)] 139) := ⟨_, rfl⟩
   rw [← hW3]
   replace hJ : OverJ w b d (2 * q) (2 * r + v) W3 := by rw [hW3]; exact (hJ.alloc _).alloc _
   replace hKO : KeepsOthers W W3 := by rw [hW3]; exact (hKO.trans (KeepsOthers.alloc _ _)).trans (KeepsOthers.alloc _ _)
   replace hBl : Below w.heap.size w W3 := by rw [hW3]; exact (hBl.alloc hBl.size _).alloc (Nat.le_trans hBl.size (by simp)) _
   clear hW3
   by_cases hl : 2 * r + v < d
   ·rw [decide_eq_true hl]
    gi_wp2
    have hst := HST.out
    rw [if_pos hl, ← HN.out] at hst
    refine ⟨hKO, hJ.2.2.2.2.2.trans hXX.symm, ?_, hBl⟩
    unfold OverI
    rw [hst.1, hst.2]
    exact hJ
   ·rw [decide_eq_false hl]
    obtain ⟨hQ, hR, hD, h45⟩ := hJ
    have hQ_0 := hQ.c0; have hQ_1 := hQ.c1; have hR_0 := hR.c0; have hR_1 := hR.c1; have hD_0 := hD.c0; have hD_1 := hD.c1
    have hQ_2 := hQ.f0; have hQ_3 := hQ.f1; have hR_2 := hR.f0; have hR_3 := hR.f1
    have r102 := run_sub64'
    obtain ⟨l0, l1⟩ := lo_bd (2 * r + v)
    obtain ⟨l2, l3⟩ := lo_bd d
    obtain ⟨m0, m1, m2, m3⟩ := hi_pair HD1.out A1.out hl HD0.out
    have c0 : 0 ≤ bor (lo (2 * r + v)) (lo d) 0 := by rw [bor_def]; omega
    have c1 : bor (lo (2 * r + v)) (lo d) 0 ≤ 1 := by rw [bor_def]; omega
    gi_wp2
    refine ⟨trivial, ?_⟩
    gi_wp2
    refine ⟨trivial, ?_⟩
    gi_wp2
    clear r102
    rw [sub_hi _ _ m0 m1 m2 m3 (by omega), ← lo_sub, E5.out]
    have hst := HST.out
    rw [if_neg (by omega), ← HN.out] at hst
    have hJ' := (OverJ.setR ⟨hQ, hR, hD, h45⟩ (2 * r + v - d)).odd
    refine ⟨((hKO.trans (KeepsOthers.setCell _ _ _)).trans (KeepsOthers.setCell _ _ _)).trans (KeepsOthers.setCell _ _ _), hJ'.2.2.2.2.2.trans hXX.symm, ?_, (below_set2 hBl (by omega) _ _).setCell (p := ⟨_, 1, none⟩) (by simp; omega) _⟩
    unfold OverI
    rw [hst.1, hst.2]
    exact hJ'
  case doneB =>
   rintro D ys W hD' rfl ⟨⟨hQ, hR, hD, h4, h5, hX⟩, hBl⟩ hK
   rw [valB_all HB.out] at hQ hR
   generalize b / d = q at *
   generalize b % d = r at *
   have hQ_0 := hQ.c0; have hQ_1 := hQ.c1; have hR_0 := hR.c0; have hR_1 := hR.c1; have h4_0 := h4.c0; have h4_1 := h4.c1; have h5_0 := h5.c0; have h5_1 := h5.c1
   have hQ_2 := hQ.f0; have hQ_3 := hQ.f1; have hR_2 := hR.f0; have hR_3 := hR.f1; have h4_2 := h4.f0; have h4_3 := h4.f1; have h5_2 := h5.f0; have h5_3 := h5.f1
   gi_wp2
   gi_region
   gi_wp2
   obtain ⟨U, hU⟩ : ∃ U, U = ((((W.setCell ⟨w.heap.size + 1 + 1, 0, none⟩ (.int .u64 (hi q))).setCell ⟨w.heap.size + 1 + 1, 1, none⟩ (.int .u64 (lo q))).setCell ⟨w.heap.size + 1 + 1 + 1, 0, none⟩ (.int .u64 (hi r))).setCell ⟨w.heap.size + 1 + 1 + 1, 1, none⟩ (.int .u64 (lo r))).drew := ⟨_, rfl⟩
   rw [← hU]
   have k4 : Box2 U (w.heap.size + 1 + 1) (.int .u64 (hi q)) (.int .u64 (lo q)) 139 := by rw [hU]; exact ((h4.set _ _).other2 (by omega) _ _).drew
   have k5 : Box2 U (w.heap.size + 1 + 1 + 1) (.int .u64 (hi r)) (.int .u64 (lo r)) 139 := by rw [hU]; exact ((h5.other2 (by omega) _ _).set _ _).drew
   have hKU : U.heap[D]? = some (.deferred (some [])) := by
    rw [hU]
    exact (((((KeepsOthers.setCell _ _ _).trans (KeepsOthers.setCell _ _ _)).trans (KeepsOthers.setCell _ _ _)).trans (KeepsOthers.setCell _ _ _)).trans (KeepsOthers.drew _)).same D _ hK rfl
   have hBU : Ext w U := by rw [hU]; exact Ext.drew (below_set2 (below_set2 hBl (by omega) _ _) (by omega) _ _)
   clear hU
   refine ⟨by simp, .inl ⟨_, _, rfl, run_takeDeferred hKU, ?_⟩⟩
   have g4 : Box2 (U.putObj D (.deferred none)) (w.heap.size + 1 + 1) (.int .u64 (hi q)) (.int .u64 (lo q)) 139 := (grownBy_keeps_cells (grownBy_putObj' _ D (.deferred none)) (fun r e => by cases e; exact ⟨_, hKU, rfl⟩) k4 rfl).trans k4
   have g5 : Box2 (U.putObj D (.deferred none)) (w.heap.size + 1 + 1 + 1) (.int .u64 (hi r)) (.int .u64 (lo r)) 139 := (grownBy_keeps_cells (grownBy_putObj' _ D (.deferred none)) (fun r e => by cases e; exact ⟨_, hKU, rfl⟩) k5 rfl).trans k5
   have g6 := g4.c0
   have g7 := g4.c1
   have g8 := g5.c0
   have g9 := g5.c1
   refine ⟨.tuple #[.agg #[.int .u64 (hi q), .int .u64 (lo q)], .agg #[.int .u64 (hi r), .int .u64 (lo r)]], ?_, rfl, Below.trans hBU (belowK_b (w := w) (Nat.le_refl _) U D _ _ (by omega) hKU rfl rfl)⟩
   simp [results, Tryz.results95, go_sem, g6, g7, g8, g9]
  case stopB =>
   rintro D c pre W _ _ h _
   exact h.elim
end Go.Proofs.YthoedmikfpbfnaaGreat

namespace Go.Proofs.YthoedmikfpbfnaaGreat
open Go Go.RowKit

theorem over_any {b d : Int} (hb : U128 b) (d0 : 0 < d) (d1 : d ≤ 170141183460469231731687303715884105728) : OverC b d := by
 intro w
 by_cases h : d < 18446744073709551616
 ·exact over_small b d w hb d0 h
 ·exact over_great b d w hb (by omega) d1
theorem magW_le {n : Int} (h : W128 n) : mag n ≤ 170141183460469231731687303715884105728 := by unfold W128 at h; unfold mag; split <;> omega
theorem trunc_any {a b : Int} (ha : W128 a) (hb : W128 b) (h0 : b ≠ 0) : Trunc3 a b := fun w =>
 dtrunc a b w ha hb h0 (over_any (mag_U ha) (mag_zero h0) (magW_le hb))
theorem overTo_all {M : Nat} (h : M ≤ 170141183460469231731687303715884105728) : OverTo M := fun b d hb d0 hd =>
 over_any (by unfold U128; omega) (by omega) (by omega)
def z0 (b x : Int) : Int := if b = 0 then 0 else x
def er (b q : Int) : Int := if b = 0 then 3 else ter q
def RetF (w : World) (b q r : Int) (e : Ending) (w' : World) : Prop :=
 e = .returned (.tuple #[.agg #[.int .i64 (z0 b (thi q)), .int .u64 (z0 b (tlo q))], .agg #[.int .i64 (z0 b (qh q r)), .int .u64 (z0 b (ql q r))], .int .i64 (er b q)]) ∧ Ext w w'
theorem retF_q {w w' : World} {b q r : Int} {e : Ending} (h0 : b ≠ 0) (h : RetQ w q r e w') : RetF w b q r e w' := by
 unfold RetF z0 er
 simp only [if_neg h0]
 exact h
theorem retF_0 {w w' : World} {q r : Int} (x : Ext w w') : RetF w 0 q r (.returned (.tuple #[.agg #[.int .i64 0, .int .u64 0], .agg #[.int .i64 0, .int .u64 0], .int .i64 3])) w' := by
 unfold RetF z0 er
 refine ⟨?_, x⟩
 rfl
set_option maxRecDepth 100000 in
set_option maxHeartbeats 1600000 in
theorem dtrunc0 (a : Int) (w : World) (q r : Int) :
  Calls Tryz.prog 139 #[.agg #[.int .i64 (hi a), .int .u64 (lo a)], .agg #[.int .i64 0, .int .u64 0]] w (RetF w 0 q r) := by
 go_enter Tryz.func139, Tryz.ntmps139
 go_wp2_with fail
 refine bodyPost_ret (v := .tuple #[.agg #[.int .i64 0, .int .u64 0], .agg #[.int .i64 0, .int .u64 0], .int .i64 3]) (by simp [results, Tryz.results139, go_sem]) rfl (retF_0 yX)
set_option maxRecDepth 100000 in
set_option maxHeartbeats 1600000 in
theorem dfloor0 (a : Int) (w : World) (q r : Int) :
  Calls Tryz.prog 107 #[.agg #[.int .i64 (hi a), .int .u64 (lo a)], .agg #[.int .i64 0, .int .u64 0]] w (RetF w 0 q r) := by
 have H1 := Lib.hid dtrunc0
 go_enter Tryz.func107, Tryz.ntmps107
 go_wp2_with fail
 obtain ⟨W, hW⟩ : ∃ W, W = (((w.alloc (.cells #[.int .i64 (hi a), .int .u64 (lo a)] 42)).alloc (.cells #[.int .i64 0, .int .u64 0] 42)).alloc (.cells #[.int .i64 0, .int .u64 0] 42)).alloc (.cells #[.int .i64 0, .int .u64 0] 42) := ⟨_, rfl⟩
 rw [← hW]
 have hR : Box2 W (w.heap.size + 1 + 1) (.int .i64 0) (.int .u64 0) 42 := by rw [hW]; exact (Box2.new (by simp)).alloc _
 have hS : Box2 W (w.heap.size + 1 + 1 + 1) (.int .i64 0) (.int .u64 0) 42 := by rw [hW]; exact Box2.new (by simp)
 have xw : Ext w W := by rw [hW]; exact (Ext.refl w).alloc.alloc.alloc.alloc
 clear hW
 refine (H1.out a _ q r).mono ?_
 rintro e w1 ⟨rfl, x1⟩
 (first | replace xw := Ext.trans xw x1 | replace xw := Ext.trans (Ext.alloc xw) x1 | replace xw := Ext.trans (Ext.drew xw) x1 | replace xw := Ext.trans (Ext.alloc (Ext.drew xw)) x1); (first | replace hR := hR.ext x1 | replace hR := (hR.alloc _).ext x1 | replace hR := hR.drew.ext x1 | replace hR := (hR.drew.alloc _).ext x1); (first | replace hS := hS.ext x1 | replace hS := (hS.alloc _).ext x1 | replace hS := hS.drew.ext x1 | replace hS := (hS.drew.alloc _).ext x1)
 replace hR := (hR.alloc (.cells #[.int .i64 0, .int .u64 0] 42)).alloc (.cells #[.int .i64 0, .int .u64 0] 42)
 replace hS := (hS.alloc (.cells #[.int .i64 0, .int .u64 0] 42)).alloc (.cells #[.int .i64 0, .int .u64 0] 42)
 have g1 : z0 0 (thi q) = 0 := rfl
 have g2 : z0 0 (tlo q) = 0 := rfl
 have g3 : z0 0 (qh q r) = 0 := rfl
 have g4 : z0 0 (ql q r) = 0 := rfl
 have g5 : er 0 q = 3 := rfl
 rw [g1, g2, g3, g4, g5]
 have hR_0 := hR.c0; have hR_1 := hR.c1; have hS_0 := hS.c0; have hS_1 := hS.c1
 have hR_2 := hR.f0; have hR_3 := hR.f1; have hS_2 := hS.f0; have hS_3 := hS.f1
 go_wp2_with fail
 refine bodyPost_ret (v := .tuple #[.agg #[.int .i64 0, .int .u64 0], .agg #[.int .i64 0, .int .u64 0], .int .i64 3]) (by simp [results, Tryz.results107, go_sem, hR_0, hR_1, hS_0, hS_1]) rfl (retF_0 ?_)
 exact Ext.set (Ext.set (Ext.set (Ext.set (Ext.alloc (Ext.alloc xw)) (by omega)) (by omega)) (by omega)) (by omega)
theorem dtrunc_any (a b : Int) (w : World) (ha : W128 a) (hb : W128 b) :
  Calls Tryz.prog 139 #[.agg #[.int .i64 (hi a), .int .u64 (lo a)], .agg #[.int .i64 (hi b), .int .u64 (lo b)]] w (RetF w b (a.tdiv b) (a.tmod b)) := by
 by_cases h0 : b = 0
 ·subst h0; exact dtrunc0 a w _ _
 ·exact (trunc_any ha hb h0 w).mono fun e w' h => retF_q h0 h
theorem dfloor_any (a b : Int) (w : World) (ha : W128 a) (hb : W128 b) :
  Calls Tryz.prog 107 #[.agg #[.int .i64 (hi a), .int .u64 (lo a)], .agg #[.int .i64 (hi b), .int .u64 (lo b)]] w (RetF w b (a.fdiv b) (a.fmod b)) := by
 by_cases h0 : b = 0
 ·subst h0; exact dfloor0 a w _ _
 ·exact (dfloor a b w ha hb h0 (trunc_any ha hb h0)).mono fun e w' h => retF_q h0 h
end Go.Proofs.YthoedmikfpbfnaaGreat

namespace Go.Proofs.YthoedmikfpbfnaaGreat
open Go Go.RowKit

end Go.Proofs.YthoedmikfpbfnaaGreat

namespace Go.Proofs.YthoedmikfpbfnaaGreat
open Go Go.RowKit

theorem wp_name {P : Program} {c : Code} {Q : Exit → Act → World → Prop} {a : Act} {w : World} (h : ∀ V, V = w → c.wp P Q a V) : c.wp P Q a w := h w rfl
theorem fmod_lt {a b : Int} (h0 : b ≠ 0) : (a.fmod b).natAbs < b.natAbs := by
 by_cases h : 0 < b
 ·have h1 := Int.fmod_eq_emod_of_nonneg a (show 0 ≤ b by omega)
  have := Int.emod_nonneg a h0
  have := Int.emod_lt_of_pos a h
  omega
 ·obtain ⟨k1, k2, k3⟩ := tdm (a := a) h0
  by_cases hs : a.tmod b = 0 ∨ (a.tmod b < 0 ↔ b < 0)
  ·rw [(floor_same h0 hs).2]; omega
  ·rw [(floor_less h0 (fun e => hs (Or.inl e)) (fun e => hs (Or.inr e))).2]; omega
theorem fmod_b {K : Nat} {a b : Int} (h : Bits K b) (h0 : b ≠ 0) : Bits K (a.fmod b) := by
 have := fmod_lt (a := a) h0
 exact h.le (by omega)
theorem fdiv_le {a b : Int} (h0 : b ≠ 0) : (a.fdiv b).natAbs ≤ a.natAbs + 1 := by
 have e := tdiv_nat (a := a) (b := b)
 have h1 : a.natAbs / b.natAbs ≤ a.natAbs := Nat.div_le_self _ _
 by_cases hs : a.tmod b = 0 ∨ (a.tmod b < 0 ↔ b < 0)
 ·rw [(floor_same h0 hs).1]; omega
 ·rw [(floor_less h0 (fun e => hs (Or.inl e)) (fun e => hs (Or.inr e))).1]; omega
theorem fdiv_b {K : Nat} {a b : Int} (h : Bits K a) (h0 : b ≠ 0) : Bits (K + 1) (a.fdiv b) := by
 have h1 := fdiv_le (a := a) h0
 have h2 : 0 < 2 ^ K := Nat.two_pow_pos K
 unfold Bits at *
 rw [Nat.pow_succ]; omega
end Go.Proofs.YthoedmikfpbfnaaGreat
end
section
namespace Go.Proofs.YthoedmikfpbfnaaGreat
open Go Go.RowKit Go.Ev

theorem fn1 {f : FuncId} {args : List Value} {v : Value} (h : ∀ w, Calls Tryz.prog f args.toArray w fun e w' => e = .returned v ∧ Ext w w') : Fn f [] args v := fun w _ => h w
theorem wcmp_fn (m n : Int) : Fn 55 [] [wv m, wv n] (.int .i64 (cmpI m n)) := fn1 (wcmp m n)
theorem wsign_fn (n : Int) : Fn 16 [] [wv n] (.int .i64 (cmpI n 0)) := fn1 (wsign n)
theorem wof_fn (n : Int) (h : I64 n) : Fn 30 [] [.int .i64 n] (wv n) := fn1 fun w => liv_of n w h
theorem wsub_yes (m n : Int) (hm : W128 m) (hn : W128 n) (h : W128 (m - n)) : Fn 92 [] [wv m, wv n] (.tuple #[wv (m - n), .int .i64 0]) := fun w _ => (wsub m n w hm hn).mono fun e w' ⟨h1, h2⟩ => ⟨by rw [h1, thi_yes h, tlo_yes h, ter_yes h], h2⟩
theorem wadd_yes (m n : Int) (hm : W128 m) (hn : W128 n) (h : W128 (m + n)) : Fn 44 [] [wv m, wv n] (.tuple #[wv (m + n), .int .i64 0]) := fun w _ => (wadd m n w hm hn).mono fun e w' ⟨h1, h2⟩ => ⟨by rw [h1, thi_yes h, tlo_yes h, ter_yes h], h2⟩
theorem wadd_no (m n : Int) (hm : W128 m) (hn : W128 n) (h : ¬ W128 (m + n)) : Fn 44 [] [wv m, wv n] (.tuple #[.agg #[.int .i64 0, .int .u64 0], .int .i64 2]) := fun w _ => (wadd m n w hm hn).mono fun e w' ⟨h1, h2⟩ => ⟨by rw [h1, thi_no h, tlo_no h, ter_no h], h2⟩
theorem wadd_any (m n : Int) (hm : W128 m) (hn : W128 n) : Fn 44 [] [wv m, wv n] (.tuple #[.agg #[.int .i64 (thi (m + n)), .int .u64 (tlo (m + n))], .int .i64 (ter (m + n))]) := fun w _ => wadd m n w hm hn
theorem wneg_yes (n : Int) (hn : W128 n) (h : W128 (-n)) : Fn 67 [] [wv n] (.tuple #[wv (-n), .int .i64 0]) := fun w _ => (wneg n w hn).mono fun e w' ⟨h1, h2⟩ => ⟨by rw [h1, thi_yes h, tlo_yes h, ter_yes h], h2⟩
theorem retF_yes {w w' : World} {b q r : Int} {e : Ending} (h0 : b ≠ 0) (h : W128 q) (k : RetF w b q r e w') : e = .returned (.tuple #[wv q, wv r, .int .i64 0]) ∧ Below w.heap.size w w' := by
 obtain ⟨h1, h2⟩ := k
 refine ⟨?_, h2⟩
 rw [h1, thi_yes h, tlo_yes h]; unfold z0 qh ql er; rw [ter_yes h]; simp only [if_neg h0, if_pos h]
theorem dfloor_yes (a b : Int) (ha : W128 a) (hb : W128 b) (h0 : b ≠ 0) (h : W128 (a.fdiv b)) : Fn 107 [] [wv a, wv b] (.tuple #[wv (a.fdiv b), wv (a.fmod b), .int .i64 0]) := fun w _ => (dfloor_any a b w ha hb).mono fun e w' k => retF_yes h0 h k
theorem dtrunc_yes (a b : Int) (ha : W128 a) (hb : W128 b) (h0 : b ≠ 0) (h : W128 (a.tdiv b)) : Fn 139 [] [wv a, wv b] (.tuple #[wv (a.tdiv b), wv (a.tmod b), .int .i64 0]) := fun w _ => (dtrunc_any a b w ha hb).mono fun e w' k => retF_yes h0 h k
/-! the reference's numbers -/
theorem zret {w w' : World} {n : Int} {e : Ending} (h : RetZ w n e w') : ∃ q : ZQ, e = .returned (zv q) ∧ Below w.heap.size w w' ∧ ZAll [(q, n)] w' := by
 obtain ⟨s, a, l, c, he, hz, hb⟩ := h
 exact ⟨⟨s, a, l, c⟩, he, hb, zall_one hz⟩
theorem zretZ {w w' : World} {m n : Int} {e : Ending} (h : RetZZ w m n e w') : ∃ q : ZQ × ZQ, e = .returned (.tuple #[zv q.1, zv q.2]) ∧ Below w.heap.size w w' ∧ ZAll [(q.1, m), (q.2, n)] w' := by
 obtain ⟨s, a, l, c, s2, a2, l2, c2, he, hz, hz2, hb⟩ := h
 exact ⟨(⟨s, a, l, c⟩, ⟨s2, a2, l2, c2⟩), he, hb, zall_two hz hz2⟩
section
variable {w : World} {p q : ZQ} {x y : Int}
theorem one_z (h : ZAll [(p, x)] w) : IsZ w p.n (.slice p.a p.l p.c) x := h (p, x) (by simp)
theorem two_z (h : ZAll [(p, x), (q, y)] w) : IsZ w p.n (.slice p.a p.l p.c) x ∧ IsZ w q.n (.slice q.a q.l q.c) y := ⟨h (p, x) (by simp), h (q, y) (by simp)⟩
end
theorem fzadd (p q : ZQ) (x y : Int) (hx : Fit x) (hy : Fit y) : FnZ 32 [(p, x), (q, y)] [zv p, zv q] zv (x + y) := fun w h => (add_z _ _ _ _ _ _ _ _ x y w (two_z h).1 (two_z h).2 hx hy).mono fun _ _ => zret
theorem fzsub (p q : ZQ) (x y : Int) (hx : Fit x) (hy : Fit y) : FnZ 38 [(p, x), (q, y)] [zv p, zv q] zv (x - y) := fun w h => (sub_z _ _ _ _ _ _ _ _ x y w (two_z h).1 (two_z h).2 hx hy).mono fun _ _ => zret
theorem fzmul (p q : ZQ) (x y : Int) (hx : Fit x) (hy : Fit y) : FnZ 34 [(p, x), (q, y)] [zv p, zv q] zv (x * y) := fun w h => (mul_z _ _ _ _ _ _ _ _ x y w (two_z h).1 (two_z h).2 hx hy).mono fun _ _ => zret
theorem fzneg (p : ZQ) (x : Int) (hx : Fit x) : FnZ 88 [(p, x)] [zv p] zv (-x) := fun w h => (neg_any _ _ _ _ x w (one_z h) hx).mono fun _ _ => zret
theorem fzabs (p : ZQ) (x : Int) (hx : Fit x) : FnZ 130 [(p, x)] [zv p] zv (x.natAbs : Int) := fun w h => (abs_any _ _ _ _ x w (one_z h) hx).mono fun _ _ => zret
theorem fzcmp (p q : ZQ) (x y : Int) (hx : Fit x) (hy : Fit y) : Fn 86 [(p, x), (q, y)] [zv p, zv q] (.int .i64 (cmpI x y)) := fun w h => cmp_z _ _ _ _ _ _ _ _ x y w (two_z h).1 (two_z h).2 hx hy
theorem fzsign (p : ZQ) (x : Int) (hx : Fit x) : Fn 103 [(p, x)] [zv p] (.int .i64 (cmpI x 0)) := fun w h => sign_z _ _ _ _ x w (one_z h) hx
theorem fzdiv (p q : ZQ) (x y : Int) (hx : Bits 1000 x) (hy : Bits 1000 y) (h0 : y ≠ 0) : FnZZ 75 [(p, x), (q, y)] [zv p, zv q] (fun q => .tuple #[zv q.1, zv q.2]) (x.fdiv y) (x.fmod y) := fun w h => (div_z _ _ _ _ _ _ _ _ x y w (two_z h).1 (two_z h).2 1000 (by omega) hx hy h0).mono fun _ _ => zretZ
theorem fzofu (n : Int) (h0 : 0 ≤ n) (h1 : n < 18446744073709551616) : FnZ 39 [] [.int .u64 n] zv n := fun w h => (ofu_any n w h0 h1).mono fun _ _ => zret
theorem fzint (n : Int) (h : I64 n) : FnZ 11 [] [.int .i64 n] zv n := fun w _ => (of_any n w h.1 h.2).mono fun _ _ => zret
end Go.Proofs.YthoedmikfpbfnaaGreat
end
section
namespace Go.Proofs.YthoedmikfpbfnaaGreat
def leap (y : Int) : Prop := y % 4 = 0 ∧ (y % 100 ≠ 0 ∨ y % 400 = 0)
instance (y : Int) : Decidable (leap y) := by unfold leap; infer_instance
def ylen (y : Int) : Int := if leap y then 366 else 365
def mlen (y m : Int) : Int := if m = 2 then (if leap y then 29 else 28) else if m = 4 ∨ m = 6 ∨ m = 9 ∨ m = 11 then 30 else if 1 ≤ m ∧ m ≤ 12 then 31 else 0
def jan (y : Int) : Int := 365 * y + (y + 3) / 4 - (y + 99) / 100 + (y + 399) / 400 - 719528
def mst0 (m : Int) : Int := if m ≤ 1 then 0 else if m = 2 then 31 else if m = 3 then 59 else if m = 4 then 90 else if m = 5 then 120 else if m = 6 then 151 else if m = 7 then 181 else if m = 8 then 212 else if m = 9 then 243 else if m = 10 then 273 else if m = 11 then 304 else if m = 12 then 334 else 365
def mst (y m : Int) : Int := mst0 m + (if 2 < m ∧ leap y then 1 else 0)
def dnum (y m d : Int) : Int := jan y + mst y m + d - 1
def dIn (y m d : Int) : Prop := 1 ≤ m ∧ m ≤ 12 ∧ 1 ≤ d ∧ d ≤ mlen y m
def dOk (y m d : Int) : Prop := dIn y m d ∧ -100000001 ≤ dnum y m d ∧ dnum y m d ≤ 100000000
theorem jan_succ (y : Int) : jan (y + 1) = jan y + ylen y := by
 unfold jan ylen
 by_cases h : leap y
 ·rw [if_pos h]; unfold leap at h; omega
 ·rw [if_neg h]; unfold leap at h; omega
theorem jan_mono {y z : Int} (h : y ≤ z) : jan y + 365 * (z - y) ≤ jan z := by
 unfold jan; omega
theorem jan_cent (c : Int) : jan (400 * c) = 146097 * c - 719528 := by unfold jan; omega
theorem months {m : Int} (h1 : 1 ≤ m) (h2 : m ≤ 12) : m = 1 ∨ m = 2 ∨ m = 3 ∨ m = 4 ∨ m = 5 ∨ m = 6 ∨ m = 7 ∨ m = 8 ∨ m = 9 ∨ m = 10 ∨ m = 11 ∨ m = 12 := by omega
theorem mst_succ {y m : Int} (h1 : 1 ≤ m) (h2 : m ≤ 12) : mst y (m + 1) = mst y m + mlen y m := by
 by_cases hl : leap y <;> rcases months h1 h2 with h | h | h | h | h | h | h | h | h | h | h | h <;> subst h <;> simp [mst, mst0, mlen, hl]
theorem mst_one (y : Int) : mst y 1 = 0 := by simp [mst, mst0]
theorem mst_end (y : Int) : mst y 13 = ylen y := by by_cases hl : leap y <;> simp [mst, mst0, ylen, hl]
theorem mlen_ge {y m : Int} (h1 : 1 ≤ m) (h2 : m ≤ 12) : 28 ≤ mlen y m ∧ mlen y m ≤ 31 := by
 by_cases hl : leap y <;> rcases months h1 h2 with h | h | h | h | h | h | h | h | h | h | h | h <;> subst h <;> simp [mlen, hl]
theorem mst_le (y : Int) {a : Int} (n : Nat) (h1 : 1 ≤ a) (h2 : a + n ≤ 13) : mst y a ≤ mst y (a + n) := by
 induction n with
 | zero => simp
 | succ n ih =>
  have i := ih (by omega)
  have s := mst_succ (y := y) (m := a + n) (by omega) (by omega)
  have g := (mlen_ge (y := y) (m := a + n) (by omega) (by omega)).1
  rw [show a + ((n + 1 : Nat) : Int) = a + (n : Int) + 1 by omega]; omega
theorem mst_mono {y m k : Int} (h1 : 1 ≤ m) (h2 : m < k) (h3 : k ≤ 13) : mst y m + mlen y m ≤ mst y k := by
 rw [← mst_succ h1 (by omega)]
 have := mst_le y (a := m + 1) (k - (m + 1)).toNat (by omega) (by omega)
 rwa [show m + 1 + (((k - (m + 1)).toNat : Nat) : Int) = k by omega] at this
theorem dnum_in {y m d : Int} (h : dIn y m d) : jan y ≤ dnum y m d ∧ dnum y m d < jan (y + 1) := by
 obtain ⟨h1, h2, h3, h4⟩ := h
 have a := mst_mono (y := y) h1 (show m < 13 by omega) (by omega)
 have b : 0 ≤ mst y m := by
  by_cases e : m = 1
  ·subst e; rw [mst_one]; omega
  ·have := mst_mono (y := y) (m := 1) (k := m) (by omega) (by omega) (by omega)
   have := (mlen_ge (y := y) (m := 1) (by omega) (by omega)).1
   rw [mst_one] at *; omega
 rw [jan_succ, ← mst_end]; unfold dnum; omega
theorem dOk_year {y m d : Int} (h : dOk y m d) : -271821 ≤ y ∧ y ≤ 275760 := by
 obtain ⟨h1, h2, h3⟩ := h
 obtain ⟨a, b⟩ := dnum_in h1
 have j1 : jan y ≤ 100000000 := by omega
 have j2 : -100000001 < jan (y + 1) := by omega
 unfold jan at j1 j2; omega
theorem dnum_lt {y m d y' m' d' : Int} (h : dIn y m d) (h' : dIn y' m' d') (k : y < y' ∨ y = y' ∧ (m < m' ∨ m = m' ∧ d < d')) : dnum y m d < dnum y' m' d' := by
 rcases k with k | ⟨rfl, k | ⟨rfl, k⟩⟩
 ·have a := (dnum_in h).2
  have b := (dnum_in h').1
  have c := jan_mono (show y + 1 ≤ y' by omega)
  omega
 ·have := mst_mono (y := y) h.1 k (by have := h'.2.1; omega)
  have := h.2.2.2
  have := h'.2.2.1
  unfold dnum; omega
 ·unfold dnum; omega
theorem dnum_inj {y m d y' m' d' : Int} (h : dIn y m d) (h' : dIn y' m' d') (k : dnum y m d = dnum y' m' d') : y = y' ∧ m = m' ∧ d = d' := by
 have a := fun x => dnum_lt h h' x
 have b := fun x => dnum_lt h' h x
 omega
theorem count_lo {y m d c r : Int} (h1 : 1 ≤ m) (h2 : m ≤ 2) (hc : y - 1 = 400 * c + r) (r0 : 0 ≤ r) (r1 : r < 400) : c * 146097 + r * 365 + r / 4 - r / 100 + (153 * (m + 9) + 2) / 5 + d - 1 - 719468 = dnum y m d := by
 have e : m = 1 ∨ m = 2 := by omega
 unfold dnum mst mst0 jan
 rcases e with rfl | rfl <;> simp <;> omega
theorem count_hi {y m d c r : Int} (h1 : 3 ≤ m) (h2 : m ≤ 12) (hc : y = 400 * c + r) (r0 : 0 ≤ r) (r1 : r < 400) : c * 146097 + r * 365 + r / 4 - r / 100 + (153 * (m - 3) + 2) / 5 + d - 1 - 719468 = dnum y m d := by
 have e : m = 3 ∨ m = 4 ∨ m = 5 ∨ m = 6 ∨ m = 7 ∨ m = 8 ∨ m = 9 ∨ m = 10 ∨ m = 11 ∨ m = 12 := by omega
 have l : (if leap y then (1 : Int) else 0) = (r + 4) / 4 - (r + 100) / 100 + (r + 400) / 400 - ((r + 3) / 4 - (r + 99) / 100 + (r + 399) / 400) := by
  by_cases h : leap y
  ·rw [if_pos h]; unfold leap at h; omega
  ·rw [if_neg h]; unfold leap at h; omega
 unfold dnum mst mst0 jan
 rcases e with rfl | rfl | rfl | rfl | rfl | rfl | rfl | rfl | rfl | rfl <;> simp [l] <;> omega
def fE (n : Int) : Int := (n + 719468) / 146097
def fD (n : Int) : Int := (n + 719468) % 146097
def fY (n : Int) : Int := (fD n - fD n / 1460 + fD n / 36524 - fD n / 146096) / 365
def fR (n : Int) : Int := fD n - (365 * fY n + fY n / 4 - fY n / 100)
def fM (n : Int) : Int := (5 * fR n + 2) / 153
def dY (n : Int) : Int := fY n + 400 * fE n + (if 12 < fM n + 3 then 1 else 0)
def dM (n : Int) : Int := fM n + 3 - (if 12 < fM n + 3 then 12 else 0)
def dD (n : Int) : Int := fR n - (153 * fM n + 2) / 5 + 1
theorem fD_in (n : Int) : 0 ≤ fD n ∧ fD n ≤ 146096 := by unfold fD; omega
def fG (D : Int) : Int := D - D / 1460 + D / 36524 - D / 146096
def fS (Y : Int) : Int := 365 * Y + Y / 4 - Y / 100 + Y / 400
theorem fG_step (D : Int) : fG D ≤ fG (D + 1) := by
 have a : (D + 1) / 1460 ≤ D / 1460 + 1 := by omega
 have b : D / 36524 ≤ (D + 1) / 36524 := by omega
 have c : (D + 1) / 146096 = D / 146096 ∨ (D + 1) / 146096 = D / 146096 + 1 ∧ (D + 1) / 36524 = D / 36524 + 1 := by omega
 unfold fG; omega
theorem fG_mono {D E : Int} (h : D ≤ E) : fG D ≤ fG E := by
 obtain ⟨n, rfl⟩ := Int.le.dest h
 clear h
 induction n with
 | zero => simp
 | succ n ih => rw [show D + ((n + 1 : Nat) : Int) = D + (n : Int) + 1 by omega]; exact Int.le_trans ih (fG_step _)
theorem fG_years : ∀ Y : Fin 400, 365 * (Y.val : Int) ≤ fG (fS Y.val) ∧ fG (fS (Y.val + 1) - 1) < 365 * ((Y.val : Int) + 1) := by decide +kernel
theorem fG_year {Y : Int} (h0 : 0 ≤ Y) (h1 : Y < 400) : 365 * Y ≤ fG (fS Y) ∧ fG (fS (Y + 1) - 1) < 365 * (Y + 1) := by
 have := fG_years ⟨Y.toNat, by omega⟩
 rwa [show ((Y.toNat : Nat) : Int) = Y by omega] at this
theorem fY_in {D Y : Int} (h0 : 0 ≤ D) (h1 : D ≤ 146096) (e : Y = fG D / 365) : 0 ≤ Y ∧ Y ≤ 399 ∧ fS Y ≤ D ∧ D < fS (Y + 1) := by
 have a := fG_mono h0
 have b := fG_mono h1
 rw [show fG 0 = 0 from by decide] at a
 rw [show fG 146096 = 145999 from by decide] at b
 have y0 : 0 ≤ Y := by omega
 have y1 : Y ≤ 399 := by omega
 refine ⟨y0, y1, ?_, ?_⟩
 ·apply Int.not_lt.1
  intro k
  have p : 1 ≤ Y := by
   apply Int.not_lt.1; intro q
   have : Y = 0 := by omega
   subst this
   have : fS 0 = 0 := by decide
   omega
  have g := (fG_year (Y := Y - 1) (by omega) (by omega)).2
  rw [show Y - 1 + 1 = Y by omega] at g
  have := fG_mono (show D ≤ fS Y - 1 by omega)
  omega
 ·apply Int.not_le.1
  intro k
  have p : Y < 399 := by
   apply Int.not_le.1; intro q
   have : Y = 399 := by omega
   subst this
   have : fS (399 + 1) = 146097 := by decide
   omega
  have g := (fG_year (Y := Y + 1) (by omega) (by omega)).1
  have := fG_mono k
  omega
theorem fM_in {R : Int} (h0 : 0 ≤ R) (h1 : R ≤ 365) : 0 ≤ (5 * R + 2) / 153 ∧ (5 * R + 2) / 153 ≤ 11 := by omega
theorem fR_in {D Y R : Int} (y0 : 0 ≤ Y) (y1 : Y ≤ 399) (hR : R = D - (365 * Y + Y / 4 - Y / 100)) (h1 : D < fS (Y + 1)) : R ≤ 365 ∧ (R = 365 → leap (Y + 1)) := by
 unfold fS at h1
 by_cases e : Y = 399
 ·subst e
  refine ⟨by omega, fun _ => by decide⟩
 ·have a : (Y + 1) / 400 = 0 := by omega
  have b : (Y + 1) / 4 = Y / 4 ∨ (Y + 1) / 4 = Y / 4 + 1 ∧ (Y + 1) % 4 = 0 := by omega
  have c : (Y + 1) / 100 = Y / 100 ∧ (Y + 1) % 100 ≠ 0 ∨ (Y + 1) / 100 = Y / 100 + 1 := by omega
  refine ⟨by omega, fun k => ?_⟩
  have c1 : (Y + 1) / 100 = Y / 100 := by omega
  have b1 : (Y + 1) / 4 = Y / 4 + 1 := by omega
  unfold leap; omega
theorem date_ok (n : Int) : dIn (dY n) (dM n) (dD n) ∧ dnum (dY n) (dM n) (dD n) = n := by
 have hD := fD_in n
 have hn : n + 719468 = 146097 * fE n + fD n := by unfold fE fD; omega
 obtain ⟨y0, y1, y2, y3⟩ := fY_in (Y := fY n) hD.1 hD.2 (by unfold fY fG; rfl)
 have y4 : fY n / 400 = 0 := by omega
 have r0 : 0 ≤ fR n := by unfold fR fS at *; omega
 obtain ⟨r1, r2⟩ := fR_in (R := fR n) y0 y1 rfl y3
 have rd : fD n = 365 * fY n + fY n / 4 - fY n / 100 + fR n := by unfold fR; omega
 have hm := fM_in r0 r1
 have m0 : fM n = 0 ∨ fM n = 1 ∨ fM n = 2 ∨ fM n = 3 ∨ fM n = 4 ∨ fM n = 5 ∨ fM n = 6 ∨ fM n = 7 ∨ fM n = 8 ∨ fM n = 9 ∨ fM n = 10 ∨ fM n = 11 := by unfold fM; omega
 have hf : fM n = (5 * fR n + 2) / 153 := rfl
 unfold dY dM dD
 generalize fM n = M at *
 generalize fR n = R at *
 generalize fY n = Y at *
 generalize fE n = c at *
 generalize fD n = D at *
 have lp : leap (Y + 400 * c + 1) ↔ leap (Y + 1) := by unfold leap; omega
 by_cases hM : M ≤ 9
 ·rw [if_neg (by omega), if_neg (by omega)]
  refine ⟨⟨by omega, by omega, by omega, ?_⟩, ?_⟩
  ·rcases m0 with h | h | h | h | h | h | h | h | h | h | h | h <;> subst h <;> simp [mlen] <;> omega
  ·rw [← count_hi (c := c) (r := Y) (by omega) (by omega) (by omega) y0 (by omega)]
   rw [show M + 3 - 0 - 3 = M by omega]; omega
 ·rw [if_pos (by omega), if_pos (by omega)]
  refine ⟨⟨by omega, by omega, by omega, ?_⟩, ?_⟩
  ·have : M = 10 ∨ M = 11 := by omega
   rcases this with h | h
   ·subst h; simp [mlen]; omega
   ·subst h
    by_cases k : leap (Y + 1)
    ·simp [mlen, lp, k]; omega
    ·have : R ≠ 365 := fun q => k (r2 q)
     simp [mlen, lp, k]; omega
  ·rw [← count_lo (c := c) (r := Y) (by omega) (by omega) (by omega) y0 (by omega)]
   rw [show M + 3 - 12 + 9 = M by omega]; omega
theorem tdiv_lit {a b : Int} (h : a < 0) : a.tdiv b = -((-a) / b) := by
 have : a.tdiv b = -((-a).tdiv b) := by rw [Int.neg_tdiv, Int.neg_neg]
 rw [this, Int.tdiv_eq_ediv_of_nonneg (by omega)]
theorem tmod_lit {a b : Int} (h : a < 0) : a.tmod b = -((-a) % b) := by
 have : a.tmod b = -((-a).tmod b) := by rw [Int.neg_tmod, Int.neg_neg]
 rw [this, Int.tmod_eq_emod_of_nonneg (by omega)]
theorem tdiv_nn {a b : Int} (h : 0 ≤ a) : a.tdiv b = a / b := Int.tdiv_eq_ediv_of_nonneg h
theorem tmod_nn {a b : Int} (h : 0 ≤ a) : a.tmod b = a % b := Int.tmod_eq_emod_of_nonneg h
theorem ylen_b (y : Int) : 365 ≤ ylen y ∧ ylen y ≤ 366 := by unfold ylen; split <;> omega
theorem jan_b {y : Int} (h0 : -1000000 ≤ y) (h1 : y ≤ 1000000) : -1000000000 ≤ jan y ∧ jan y ≤ 1000000000 := by unfold jan; omega
theorem mst_b {y m : Int} (h1 : 1 ≤ m) (h2 : m ≤ 13) : 0 ≤ mst y m ∧ mst y m ≤ 366 := by
 have a := mst_le y (a := 1) (m - 1).toNat (by omega) (by omega)
 have b := mst_le y (a := m) (13 - m).toNat (by omega) (by omega)
 rw [show 1 + (((m - 1).toNat : Nat) : Int) = m by omega, mst_one] at a
 rw [show m + (((13 - m).toNat : Nat) : Int) = 13 by omega, mst_end] at b
 have := ylen_b y
 omega
theorem date_uniq {n y m d : Int} (h : dIn y m d) (k : dnum y m d = n) : y = dY n ∧ m = dM n ∧ d = dD n := by
 obtain ⟨a, b⟩ := date_ok n
 exact dnum_inj h a (by omega)
theorem date_of {y m d : Int} (h : dIn y m d) : dY (dnum y m d) = y ∧ dM (dnum y m d) = m ∧ dD (dnum y m d) = d := by
 obtain ⟨a, b, c⟩ := date_uniq h rfl
 exact ⟨a.symm, b.symm, c.symm⟩
theorem mlen_no {y m : Int} (h : m < 1 ∨ 12 < m) : mlen y m = 0 := by
 unfold mlen
 rw [if_neg (by omega), if_neg (by omega), if_neg (by omega)]
end Go.Proofs.YthoedmikfpbfnaaGreat
end
section
set_option maxRecDepth 100000
namespace Go.Proofs.YthoedmikfpbfnaaGreat
open Go Go.RowKit Go.Ev

abbrev dv (y m d : Int) : Value := .agg #[.int .i64 y, .int .i64 m, .int .i64 d]
theorem i_eq {x x' : Int} (h : x = x') : Value.int .i64 x = .int .i64 x' := by rw [h]
theorem b_eq {x x' : Bool} (h : x = x') : Value.bool x = .bool x' := by rw [h]
theorem ii_eq {x y x' y' : Int} (h : x = x') (k : y = y') : Value.tuple #[.int .i64 x, .int .i64 y] = .tuple #[.int .i64 x', .int .i64 y'] := by rw [h, k]
theorem d_eq {y m d y' m' d' : Int} (h : y = y') (k : m = m') (l : d = d') : dv y m d = dv y' m' d' := by rw [h, k, l]
theorem db_eq {y m d y' m' d' : Int} {b : Bool} (h : y = y') (k : m = m') (l : d = d') : Value.tuple #[dv y m d, .bool b] = .tuple #[dv y' m' d', .bool b] := by rw [h, k, l]
theorem tmod0 (a b : Int) : (a.tmod b == 0) = decide (a % b = 0) := by
 rw [Bool.eq_iff_iff, beq_iff_eq, decide_eq_true_iff]
 constructor
 ·intro h; exact Int.emod_eq_zero_of_dvd (Int.dvd_of_tmod_eq_zero h)
 ·intro h; exact Int.tmod_eq_zero_of_dvd (Int.dvd_of_emod_eq_zero h)
theorem tmod1 (a b : Int) : (a.tmod b != 0) = !decide (a % b = 0) := by
 rw [bne, tmod0]
theorem zleap (y : Int) : Fn 126 [] [.int .i64 y] (.bool (decide (leap y))) := by
 by_cases h4 : y % 400 = 0
 ·have b4 : (y.tmod 400 == 0) = true := by rw [tmod0]; simp [h4]
  have e : decide (leap y) = true := by simp [leap, h4]; omega
  rw [e]
  refine fn_of Tryz.func126 rfl fun ww => ?_
  refine qV 5 (show (y.tmod 400 == 0) = true by assumption) ?_
  exact qR Tryz.func126
 ·have b4 : (y.tmod 400 == 0) = false := by rw [tmod0]; simp [h4]
  by_cases h1 : y % 100 = 0
  ·have b1 : (y.tmod 100 == 0) = true := by rw [tmod0]; simp [h1]
   have e : decide (leap y) = false := by simp [leap, h4, h1]
   rw [e]
   refine fn_of Tryz.func126 rfl fun ww => ?_
   refine qV 5 (show (y.tmod 400 == 0) = false by assumption) ?_
   refine qV 8 (show (y.tmod 100 == 0) = true by assumption) ?_
   exact qR Tryz.func126
  ·have b1 : (y.tmod 100 == 0) = false := by rw [tmod0]; simp [h1]
   have e : decide (leap y) = (y.tmod 4 == 0) := by rw [tmod0]; simp [leap, h1]
   rw [e]
   refine fn_of Tryz.func126 rfl fun ww => ?_
   refine qV 5 (show (y.tmod 400 == 0) = false by assumption) ?_
   refine qV 8 (show (y.tmod 100 == 0) = false by assumption) ?_
   exact qR Tryz.func126
theorem cleap (y : Int) : Fn 166 [] [.int .i64 y] (.bool (decide (leap y))) := by
 by_cases h4 : y % 4 = 0
 ·have b4 : (y.tmod 4 == 0) = true := by rw [tmod0]; simp [h4]
  by_cases h1 : y % 100 = 0
  ·have b1 : (y.tmod 100 != 0) = false := by rw [tmod1]; simp [h1]
   have e : decide (leap y) = (y.tmod 400 == 0) := by rw [tmod0]; simp [leap, h4, h1]
   rw [e]
   refine fn_of Tryz.func166 rfl fun ww => ?_
   refine qV 5 (show (y.tmod 4 == 0) = true by assumption) ?_
   refine qV 9 (show (y.tmod 100 != 0) = false by assumption) ?_
   exact qR Tryz.func166
  ·have b1 : (y.tmod 100 != 0) = true := by rw [tmod1]; simp [h1]
   have e : decide (leap y) = true := by simp [leap, h4, h1]
   rw [e]
   refine fn_of Tryz.func166 rfl fun ww => ?_
   refine qV 5 (show (y.tmod 4 == 0) = true by assumption) ?_
   refine qV 9 (show (y.tmod 100 != 0) = true by assumption) ?_
   exact qR Tryz.func166
 ·have b4 : (y.tmod 4 == 0) = false := by rw [tmod0]; simp [h4]
  have e : decide (leap y) = false := by simp [leap, h4]
  rw [e]
  refine fn_of Tryz.func166 rfl fun ww => ?_
  refine qV 5 (show (y.tmod 4 == 0) = false by assumption) ?_
  exact qR Tryz.func166
theorem zleap_yes {y : Int} (h : leap y) : Fn 126 [] [.int .i64 y] (.bool true) := by have := zleap y; rwa [decide_eq_true h] at this
theorem zleap_no {y : Int} (h : ¬ leap y) : Fn 126 [] [.int .i64 y] (.bool false) := by have := zleap y; rwa [decide_eq_false h] at this
theorem cleap_yes {y : Int} (h : leap y) : Fn 166 [] [.int .i64 y] (.bool true) := by have := cleap y; rwa [decide_eq_true h] at this
theorem cleap_no {y : Int} (h : ¬ leap y) : Fn 166 [] [.int .i64 y] (.bool false) := by have := cleap y; rwa [decide_eq_false h] at this
theorem zdown400 (a : Int) (ha : -1000000000000 ≤ a) (hb : a ≤ 1000000000000) : Fn 127 [] [.int .i64 a, .int .i64 400] (.int .i64 (a / 400)) := by
 by_cases h : 0 ≤ a
 ·have e : a.tdiv 400 = a / 400 := tdiv_nn h
  refine fn_of Tryz.func127 rfl fun ww => ?_
  refine qI 8 (a.tdiv 400) ?_
  refine qI 11 (a.tdiv 400 * 400) ?_
  refine qN 13 (decide (a.tdiv 400 * 400 > a)) ?_
  exact st_retv Tryz.func127 (show vI64 (a.tdiv 400) = _ by (refine i_eq ?_; omega)) (by kernel_rfl)
 ·have e : a.tdiv 400 = -((-a) / 400) := tdiv_lit (by omega)
  refine fn_of Tryz.func127 rfl fun ww => ?_
  refine qI 8 (a.tdiv 400) ?_
  refine qI 11 (a.tdiv 400 * 400) ?_
  by_cases k13 : a.tdiv 400 * 400 > a
  ·refine qV 13 (decide_eq_true k13) ?_
   refine qI 15 (a.tdiv 400 - 1) ?_
   exact st_retv Tryz.func127 (show vI64 (a.tdiv 400 - 1) = _ by (refine i_eq ?_; omega)) (by kernel_rfl)
  ·refine qV 13 (decide_eq_false k13) ?_
   exact st_retv Tryz.func127 (show vI64 (a.tdiv 400) = _ by (refine i_eq ?_; omega)) (by kernel_rfl)
theorem cfloor400 (a : Int) (ha : -1000000000000 ≤ a) (hb : a ≤ 1000000000000) : Fn 160 [] [.int .i64 a, .int .i64 400] (.tuple #[.int .i64 (a / 400), .int .i64 (a % 400)]) := by
 by_cases h : 0 ≤ a
 ·have e : a.tdiv 400 = a / 400 := tdiv_nn h
  have e2 : a.tmod 400 = a % 400 := tmod_nn h
  refine fn_of Tryz.func160 rfl fun ww => ?_
  refine qI 10 (a.tdiv 400) ?_
  refine qN 15 (decide (a.tmod 400 < 0)) ?_
  exact st_retv Tryz.func160 (show Value.tuple #[vI64 (a.tdiv 400), vI64 (a.tmod 400)] = _ by (refine ii_eq ?_ ?_ <;> omega)) (by kernel_rfl)
 ·have e : a.tdiv 400 = -((-a) / 400) := tdiv_lit (by omega)
  have e2 : a.tmod 400 = -((-a) % 400) := tmod_lit (by omega)
  refine fn_of Tryz.func160 rfl fun ww => ?_
  refine qI 10 (a.tdiv 400) ?_
  by_cases k15 : a.tmod 400 < 0
  ·refine qV 15 (decide_eq_true k15) ?_
   refine qI 17 (a.tdiv 400 - 1) ?_
   refine qI 20 (a.tmod 400 + 400) ?_
   exact st_retv Tryz.func160 (show Value.tuple #[vI64 (a.tdiv 400 - 1), vI64 (a.tmod 400 + 400)] = _ by (refine ii_eq ?_ ?_ <;> omega)) (by kernel_rfl)
  ·refine qV 15 (decide_eq_false k15) ?_
   exact st_retv Tryz.func160 (show Value.tuple #[vI64 (a.tdiv 400), vI64 (a.tmod 400)] = _ by (refine ii_eq ?_ ?_ <;> omega)) (by kernel_rfl)
theorem zdown146097 (a : Int) (ha : -1000000000000 ≤ a) (hb : a ≤ 1000000000000) : Fn 127 [] [.int .i64 a, .int .i64 146097] (.int .i64 (a / 146097)) := by
 by_cases h : 0 ≤ a
 ·have e : a.tdiv 146097 = a / 146097 := tdiv_nn h
  refine fn_of Tryz.func127 rfl fun ww => ?_
  refine qI 8 (a.tdiv 146097) ?_
  refine qI 11 (a.tdiv 146097 * 146097) ?_
  refine qN 13 (decide (a.tdiv 146097 * 146097 > a)) ?_
  exact st_retv Tryz.func127 (show vI64 (a.tdiv 146097) = _ by (refine i_eq ?_; omega)) (by kernel_rfl)
 ·have e : a.tdiv 146097 = -((-a) / 146097) := tdiv_lit (by omega)
  refine fn_of Tryz.func127 rfl fun ww => ?_
  refine qI 8 (a.tdiv 146097) ?_
  refine qI 11 (a.tdiv 146097 * 146097) ?_
  by_cases k13 : a.tdiv 146097 * 146097 > a
  ·refine qV 13 (decide_eq_true k13) ?_
   refine qI 15 (a.tdiv 146097 - 1) ?_
   exact st_retv Tryz.func127 (show vI64 (a.tdiv 146097 - 1) = _ by (refine i_eq ?_; omega)) (by kernel_rfl)
  ·refine qV 13 (decide_eq_false k13) ?_
   exact st_retv Tryz.func127 (show vI64 (a.tdiv 146097) = _ by (refine i_eq ?_; omega)) (by kernel_rfl)
theorem cfloor146097 (a : Int) (ha : -1000000000000 ≤ a) (hb : a ≤ 1000000000000) : Fn 160 [] [.int .i64 a, .int .i64 146097] (.tuple #[.int .i64 (a / 146097), .int .i64 (a % 146097)]) := by
 by_cases h : 0 ≤ a
 ·have e : a.tdiv 146097 = a / 146097 := tdiv_nn h
  have e2 : a.tmod 146097 = a % 146097 := tmod_nn h
  refine fn_of Tryz.func160 rfl fun ww => ?_
  refine qI 10 (a.tdiv 146097) ?_
  refine qN 15 (decide (a.tmod 146097 < 0)) ?_
  exact st_retv Tryz.func160 (show Value.tuple #[vI64 (a.tdiv 146097), vI64 (a.tmod 146097)] = _ by (refine ii_eq ?_ ?_ <;> omega)) (by kernel_rfl)
 ·have e : a.tdiv 146097 = -((-a) / 146097) := tdiv_lit (by omega)
  have e2 : a.tmod 146097 = -((-a) % 146097) := tmod_lit (by omega)
  refine fn_of Tryz.func160 rfl fun ww => ?_
  refine qI 10 (a.tdiv 146097) ?_
  by_cases k15 : a.tmod 146097 < 0
  ·refine qV 15 (decide_eq_true k15) ?_
   refine qI 17 (a.tdiv 146097 - 1) ?_
   refine qI 20 (a.tmod 146097 + 146097) ?_
   exact st_retv Tryz.func160 (show Value.tuple #[vI64 (a.tdiv 146097 - 1), vI64 (a.tmod 146097 + 146097)] = _ by (refine ii_eq ?_ ?_ <;> omega)) (by kernel_rfl)
  ·refine qV 15 (decide_eq_false k15) ?_
   exact st_retv Tryz.func160 (show Value.tuple #[vI64 (a.tdiv 146097), vI64 (a.tmod 146097)] = _ by (refine ii_eq ?_ ?_ <;> omega)) (by kernel_rfl)
theorem zmonth (y m : Int) : Fn 73 [] [.int .i64 y, .int .i64 m] (.int .i64 (mlen y m)) := by
 by_cases h1 : 1 ≤ m ∧ m ≤ 12
 ·rcases months h1.1 h1.2 with h | h | h | h | h | h | h | h | h | h | h | h <;> subst h
  ·rw [show mlen y 1 = 31 from rfl]
   refine fn_of Tryz.func73 rfl fun ww => ?_
   exact qR Tryz.func73
  ·by_cases hl : leap y
   ·rw [show mlen y 2 = 29 by simp [mlen, hl]]
    refine fn_of Tryz.func73 rfl fun ww => ?_
    refine qF ent126 (zleap_yes (by assumption)) ?_
    exact qR Tryz.func73
   ·rw [show mlen y 2 = 28 by simp [mlen, hl]]
    refine fn_of Tryz.func73 rfl fun ww => ?_
    refine qF ent126 (zleap_no (by assumption)) ?_
    exact qR Tryz.func73
  ·rw [show mlen y 3 = 31 from rfl]
   refine fn_of Tryz.func73 rfl fun ww => ?_
   exact qR Tryz.func73
  ·rw [show mlen y 4 = 30 from rfl]
   refine fn_of Tryz.func73 rfl fun ww => ?_
   exact qR Tryz.func73
  ·rw [show mlen y 5 = 31 from rfl]
   refine fn_of Tryz.func73 rfl fun ww => ?_
   exact qR Tryz.func73
  ·rw [show mlen y 6 = 30 from rfl]
   refine fn_of Tryz.func73 rfl fun ww => ?_
   exact qR Tryz.func73
  ·rw [show mlen y 7 = 31 from rfl]
   refine fn_of Tryz.func73 rfl fun ww => ?_
   exact qR Tryz.func73
  ·rw [show mlen y 8 = 31 from rfl]
   refine fn_of Tryz.func73 rfl fun ww => ?_
   exact qR Tryz.func73
  ·rw [show mlen y 9 = 30 from rfl]
   refine fn_of Tryz.func73 rfl fun ww => ?_
   exact qR Tryz.func73
  ·rw [show mlen y 10 = 31 from rfl]
   refine fn_of Tryz.func73 rfl fun ww => ?_
   exact qR Tryz.func73
  ·rw [show mlen y 11 = 30 from rfl]
   refine fn_of Tryz.func73 rfl fun ww => ?_
   exact qR Tryz.func73
  ·rw [show mlen y 12 = 31 from rfl]
   refine fn_of Tryz.func73 rfl fun ww => ?_
   exact qR Tryz.func73
 ·rw [mlen_no (by omega)]
  by_cases h2 : m < 1
  ·refine fn_of Tryz.func73 rfl fun ww => ?_
   refine qN 7 (m == 1) ?_
   refine qN 8 (m == 3) ?_
   refine qN 9 (m == 5) ?_
   refine qN 10 (m == 7) ?_
   refine qN 11 (m == 8) ?_
   refine qN 12 (m == 10) ?_
   refine qN 13 (m == 12) ?_
   refine qN 15 (m == 4) ?_
   refine qN 16 (m == 6) ?_
   refine qN 17 (m == 9) ?_
   refine qN 18 (m == 11) ?_
   refine qN 20 (m == 2) ?_
   exact qR Tryz.func73
  ·have h3 : 12 < m := by omega
   refine fn_of Tryz.func73 rfl fun ww => ?_
   refine qN 7 (m == 1) ?_
   refine qN 8 (m == 3) ?_
   refine qN 9 (m == 5) ?_
   refine qN 10 (m == 7) ?_
   refine qN 11 (m == 8) ?_
   refine qN 12 (m == 10) ?_
   refine qN 13 (m == 12) ?_
   refine qN 15 (m == 4) ?_
   refine qN 16 (m == 6) ?_
   refine qN 17 (m == 9) ?_
   refine qN 18 (m == 11) ?_
   refine qN 20 (m == 2) ?_
   exact qR Tryz.func73
theorem cmonth (y m : Int) : Fn 145 [] [.int .i64 y, .int .i64 m] (.int .i64 (mlen y m)) := by
 by_cases h1 : 1 ≤ m ∧ m ≤ 12
 ·rcases months h1.1 h1.2 with h | h | h | h | h | h | h | h | h | h | h | h <;> subst h
  ·rw [show mlen y 1 = 31 from rfl]
   refine fn_of Tryz.func145 rfl fun ww => ?_
   exact qR Tryz.func145
  ·by_cases hl : leap y
   ·rw [show mlen y 2 = 29 by simp [mlen, hl]]
    refine fn_of Tryz.func145 rfl fun ww => ?_
    refine qF ent166 (cleap_yes (by assumption)) ?_
    exact qR Tryz.func145
   ·rw [show mlen y 2 = 28 by simp [mlen, hl]]
    refine fn_of Tryz.func145 rfl fun ww => ?_
    refine qF ent166 (cleap_no (by assumption)) ?_
    exact qR Tryz.func145
  ·rw [show mlen y 3 = 31 from rfl]
   refine fn_of Tryz.func145 rfl fun ww => ?_
   exact qR Tryz.func145
  ·rw [show mlen y 4 = 30 from rfl]
   refine fn_of Tryz.func145 rfl fun ww => ?_
   exact qR Tryz.func145
  ·rw [show mlen y 5 = 31 from rfl]
   refine fn_of Tryz.func145 rfl fun ww => ?_
   exact qR Tryz.func145
  ·rw [show mlen y 6 = 30 from rfl]
   refine fn_of Tryz.func145 rfl fun ww => ?_
   exact qR Tryz.func145
  ·rw [show mlen y 7 = 31 from rfl]
   refine fn_of Tryz.func145 rfl fun ww => ?_
   exact qR Tryz.func145
  ·rw [show mlen y 8 = 31 from rfl]
   refine fn_of Tryz.func145 rfl fun ww => ?_
   exact qR Tryz.func145
  ·rw [show mlen y 9 = 30 from rfl]
   refine fn_of Tryz.func145 rfl fun ww => ?_
   exact qR Tryz.func145
  ·rw [show mlen y 10 = 31 from rfl]
   refine fn_of Tryz.func145 rfl fun ww => ?_
   exact qR Tryz.func145
  ·rw [show mlen y 11 = 30 from rfl]
   refine fn_of Tryz.func145 rfl fun ww => ?_
   exact qR Tryz.func145
  ·rw [show mlen y 12 = 31 from rfl]
   refine fn_of Tryz.func145 rfl fun ww => ?_
   exact qR Tryz.func145
 ·rw [mlen_no (by omega)]
  by_cases h2 : m < 1
  ·refine fn_of Tryz.func145 rfl fun ww => ?_
   refine qY 9 (decide (m < 1)) ?_
   exact qR Tryz.func145
  ·have h3 : 12 < m := by omega
   refine fn_of Tryz.func145 rfl fun ww => ?_
   refine qN 9 (decide (m < 1)) ?_
   refine qY 12 (decide (m > 12)) ?_
   exact qR Tryz.func145
theorem zyear (y : Int) : Fn 128 [] [.int .i64 y] (.int .i64 (ylen y)) := by
 by_cases hl : leap y
 ·rw [show ylen y = 366 by simp [ylen, hl]]
  refine fn_of Tryz.func128 rfl fun ww => ?_
  refine qF ent126 (zleap_yes (by assumption)) ?_
  exact qR Tryz.func128
 ·rw [show ylen y = 365 by simp [ylen, hl]]
  refine fn_of Tryz.func128 rfl fun ww => ?_
  refine qF ent126 (zleap_no (by assumption)) ?_
  exact qR Tryz.func128
theorem ccount (y m d : Int) (y0 : -300000 ≤ y) (y1 : y ≤ 300000) (m1 : 1 ≤ m) (m2 : m ≤ 12) (d0 : -1000 ≤ d) (d1 : d ≤ 1000) : Fn 159 [] [dv y m d] (.int .i64 (dnum y m d)) := by
 by_cases hm : m ≤ 2
 ·have e := count_lo (y := y) (m := m) (d := d) (c := (y - 1) / 400) (r := (y - 1) % 400) m1 hm (by omega) (by omega) (by omega)
  have t4 : ((y - 1) % 400).tdiv 4 = ((y - 1) % 400) / 4 := tdiv_nn (by omega)
  have t1 : ((y - 1) % 400).tdiv 100 = ((y - 1) % 400) / 100 := tdiv_nn (by omega)
  have t5 : (153 * (m - 3 + 12) + 2).tdiv 5 = (153 * (m + 9) + 2) / 5 := by rw [tdiv_nn (by omega)]; congr 2; omega
  refine fn_of Tryz.func159 rfl fun ww => ?_
  refine qI 10 (m - 3) ?_
  refine qY 12 (decide (m - 3 < 0)) ?_
  refine qI 14 (y - 1) ?_
  refine qI 16 (m - 3 + 12) ?_
  refine qF ent160 (cfloor400 (y - 1) (by omega) (by omega)) ?_
  refine qI 23 ((y - 1) / 400 * 146097) ?_
  refine qI 25 ((y - 1) % 400 * 365) ?_
  refine qI 26 ((y - 1) / 400 * 146097 + (y - 1) % 400 * 365) ?_
  refine qI 28 (((y - 1) % 400).tdiv 4) ?_
  refine qI 29 ((y - 1) / 400 * 146097 + (y - 1) % 400 * 365 + ((y - 1) % 400).tdiv 4) ?_
  refine qI 31 (((y - 1) % 400).tdiv 100) ?_
  refine qI 32 ((y - 1) / 400 * 146097 + (y - 1) % 400 * 365 + ((y - 1) % 400).tdiv 4 - ((y - 1) % 400).tdiv 100) ?_
  refine qI 34 (153 * (m - 3 + 12)) ?_
  refine qI 35 (153 * (m - 3 + 12) + 2) ?_
  refine qI 36 ((153 * (m - 3 + 12) + 2).tdiv 5) ?_
  refine qI 37 ((y - 1) / 400 * 146097 + (y - 1) % 400 * 365 + ((y - 1) % 400).tdiv 4 - ((y - 1) % 400).tdiv 100 + (153 * (m - 3 + 12) + 2).tdiv 5) ?_
  refine qI 40 ((y - 1) / 400 * 146097 + (y - 1) % 400 * 365 + ((y - 1) % 400).tdiv 4 - ((y - 1) % 400).tdiv 100 + (153 * (m - 3 + 12) + 2).tdiv 5 + d) ?_
  refine qI 41 ((y - 1) / 400 * 146097 + (y - 1) % 400 * 365 + ((y - 1) % 400).tdiv 4 - ((y - 1) % 400).tdiv 100 + (153 * (m - 3 + 12) + 2).tdiv 5 + d - 1) ?_
  refine qI 42 ((y - 1) / 400 * 146097 + (y - 1) % 400 * 365 + ((y - 1) % 400).tdiv 4 - ((y - 1) % 400).tdiv 100 + (153 * (m - 3 + 12) + 2).tdiv 5 + d - 1 - 719468) ?_
  exact st_retv Tryz.func159 (show vI64 ((y - 1) / 400 * 146097 + (y - 1) % 400 * 365 + ((y - 1) % 400).tdiv 4 - ((y - 1) % 400).tdiv 100 + (153 * (m - 3 + 12) + 2).tdiv 5 + d - 1 - 719468) = _ by (refine i_eq ?_; omega)) (by kernel_rfl)
 ·have e := count_hi (y := y) (m := m) (d := d) (c := y / 400) (r := y % 400) (by omega) m2 (by omega) (by omega) (by omega)
  have t4 : (y % 400).tdiv 4 = (y % 400) / 4 := tdiv_nn (by omega)
  have t1 : (y % 400).tdiv 100 = (y % 400) / 100 := tdiv_nn (by omega)
  have t5 : (153 * (m - 3) + 2).tdiv 5 = (153 * (m - 3) + 2) / 5 := tdiv_nn (by omega)
  refine fn_of Tryz.func159 rfl fun ww => ?_
  refine qI 10 (m - 3) ?_
  refine qN 12 (decide (m - 3 < 0)) ?_
  refine qF ent160 (cfloor400 (y) (by omega) (by omega)) ?_
  refine qI 23 (y / 400 * 146097) ?_
  refine qI 25 (y % 400 * 365) ?_
  refine qI 26 (y / 400 * 146097 + y % 400 * 365) ?_
  refine qI 28 ((y % 400).tdiv 4) ?_
  refine qI 29 (y / 400 * 146097 + y % 400 * 365 + (y % 400).tdiv 4) ?_
  refine qI 31 ((y % 400).tdiv 100) ?_
  refine qI 32 (y / 400 * 146097 + y % 400 * 365 + (y % 400).tdiv 4 - (y % 400).tdiv 100) ?_
  refine qI 34 (153 * (m - 3)) ?_
  refine qI 35 (153 * (m - 3) + 2) ?_
  refine qI 36 ((153 * (m - 3) + 2).tdiv 5) ?_
  refine qI 37 (y / 400 * 146097 + y % 400 * 365 + (y % 400).tdiv 4 - (y % 400).tdiv 100 + (153 * (m - 3) + 2).tdiv 5) ?_
  refine qI 40 (y / 400 * 146097 + y % 400 * 365 + (y % 400).tdiv 4 - (y % 400).tdiv 100 + (153 * (m - 3) + 2).tdiv 5 + d) ?_
  refine qI 41 (y / 400 * 146097 + y % 400 * 365 + (y % 400).tdiv 4 - (y % 400).tdiv 100 + (153 * (m - 3) + 2).tdiv 5 + d - 1) ?_
  refine qI 42 (y / 400 * 146097 + y % 400 * 365 + (y % 400).tdiv 4 - (y % 400).tdiv 100 + (153 * (m - 3) + 2).tdiv 5 + d - 1 - 719468) ?_
  exact st_retv Tryz.func159 (show vI64 (y / 400 * 146097 + y % 400 * 365 + (y % 400).tdiv 4 - (y % 400).tdiv 100 + (153 * (m - 3) + 2).tdiv 5 + d - 1 - 719468) = _ by (refine i_eq ?_; omega)) (by kernel_rfl)
end Go.Proofs.YthoedmikfpbfnaaGreat
end
section
namespace Go.Proofs.YthoedmikfpbfnaaGreat
open Go Go.RowKit

end Go.Proofs.YthoedmikfpbfnaaGreat

namespace Go.Proofs.YthoedmikfpbfnaaGreat
open Go Go.RowKit

end Go.Proofs.YthoedmikfpbfnaaGreat

namespace Go.Proofs.YthoedmikfpbfnaaGreat
open Go Go.RowKit

end Go.Proofs.YthoedmikfpbfnaaGreat

namespace Go.Proofs.YthoedmikfpbfnaaGreat
open Go Go.RowKit

def frP (n d : Int) : Int := wsg (!(decide (n < 0) == decide (d < 0))) ((n.natAbs / Nat.gcd n.natAbs d.natAbs : Nat) : Int)
def frQ (n d : Int) : Int := ((d.natAbs / Nat.gcd n.natAbs d.natAbs : Nat) : Int)
theorem gcd_pos {a b : Int} (h : b ≠ 0) : 0 < Nat.gcd a.natAbs b.natAbs := Nat.gcd_pos_of_pos_right _ (by omega)
end Go.Proofs.YthoedmikfpbfnaaGreat
end
section
namespace Go.Proofs.YthoedmikfpbfnaaGreat
open Go Go.RowKit

def Bx (w : World) (k : Nat) (cs : Array Value) (t : TypeId) : Prop := w.heap[k]? = some (.cells cs t (0, 0))
theorem Bx.kind {w : World} {k : Nat} {cs : Array Value} {t : TypeId} (h : Bx w k cs t) : Kind w k t := ⟨_, _, h⟩
theorem Bx.below {w w' : World} {k : Nat} {cs : Array Value} {t : TypeId} (h : Bx w k cs t) (hb : Below w.heap.size w w') : Bx w' k cs t := (hb.block k h.kind.lt).trans h
theorem Bx.ext {w w' : World} {k : Nat} {cs : Array Value} {t : TypeId} (h : Bx w k cs t) (hb : Ext w w') : Bx w' k cs t := h.below hb
theorem Bx.drew {w : World} {k : Nat} {cs : Array Value} {t : TypeId} (h : Bx w k cs t) : Bx w.drew k cs t := h
theorem Bx.drewN {w : World} {k : Nat} {cs : Array Value} {t : TypeId} (h : Bx w k cs t) (n : Nat) : Bx (w.drewN n) k cs t := h
theorem Bx.alloc {w : World} {k : Nat} {cs : Array Value} {t : TypeId} (h : Bx w k cs t) (o : Obj) : Bx (w.alloc o) k cs t := h.below (below1 w o)
theorem Bx.new {w : World} {k : Nat} {cs : Array Value} {t : TypeId} (h : k = w.heap.size) : Bx (w.alloc (.cells cs t)) k cs t := by subst h; exact heap_alloc_new w _
theorem Bx.c {w : World} {k : Nat} {cs : Array Value} {t : TypeId} (h : Bx w k cs t) (i : Nat) {v : Value} (e : cs[i]? = some v) : w.cell? ⟨k, i, none⟩ = some v := by
 unfold Bx at h; simp [World.cell?, h, e]
theorem Bx.f {w : World} {k : Nat} {cs : Array Value} {t : TypeId} (h : Bx w k cs t) (i : Nat) : w.frozen? ⟨k, i, none⟩ = false := by unfold Bx at h; simp [World.frozen?, h]
theorem Bx.setc {w : World} {k : Nat} {cs : Array Value} {t : TypeId} (h : Bx w k cs t) (i : Nat) (u : Value) {cs' : Array Value} (e : cs.setIfInBounds i u = cs') : Bx (w.setCell ⟨k, i, none⟩ u) k cs' t := by
 have h1 := Joins.block_setCell (i := i) h u
 rw [← e]; exact h1
theorem Bx.other {w : World} {k : Nat} {cs : Array Value} {t : TypeId} (h : Bx w k cs t) {b : Nat} (hne : k ≠ b) (o : Nat) (x : Value) : Bx (w.setCell ⟨b, o, none⟩ x) k cs t :=
 (heap_setCell_other w ⟨b, o, none⟩ k x hne).trans h
end Go.Proofs.YthoedmikfpbfnaaGreat
end
section
namespace Go.Proofs.YthoedmikfpbfnaaGreat
open Go Go.RowKit

def tOk (h m s n : Int) : Prop := (0 ≤ h ∧ h ≤ 23) ∧ (0 ≤ m ∧ m ≤ 59) ∧ (0 ≤ s ∧ s ≤ 59) ∧ (0 ≤ n ∧ n ≤ 999999999)
instance (h m s n : Int) : Decidable (tOk h m s n) := by unfold tOk; exact inferInstance
def tOkB (h m s n : Int) : Bool := decide (tOk h m s n)
theorem tOkB_yes {h m s n : Int} (k : tOk h m s n) : tOkB h m s n = true := decide_eq_true k
theorem tOkB_no {h m s n : Int} (k : ¬ tOk h m s n) : tOkB h m s n = false := decide_eq_false k
def tnan (h m s n : Int) : Int := ((h * 60 + m) * 60 + s) * 1000000000 + n
def tH (n : Int) : Int := n / 3600000000000
def tM (n : Int) : Int := n / 60000000000 % 60
def tS (n : Int) : Int := n / 1000000000 % 60
def tN (n : Int) : Int := n % 1000000000
theorem tnan_bd {h m s n : Int} (k : tOk h m s n) : 0 ≤ tnan h m s n ∧ tnan h m s n < 86400000000000 := by unfold tOk at k; unfold tnan; omega
theorem t_tnan {h m s n : Int} (k : tOk h m s n) : tH (tnan h m s n) = h ∧ tM (tnan h m s n) = m ∧ tS (tnan h m s n) = s ∧ tN (tnan h m s n) = n := by
 unfold tOk at k; unfold tH tM tS tN tnan; omega
theorem t_ok {n : Int} (h0 : 0 ≤ n) (h1 : n < 86400000000000) : tOk (tH n) (tM n) (tS n) (tN n) := by unfold tOk tH tM tS tN; omega
theorem tnan_t {n : Int} (h0 : 0 ≤ n) : tnan (tH n) (tM n) (tS n) (tN n) = n := by unfold tnan tH tM tS tN; omega
set_option maxRecDepth 100000 in
set_option maxHeartbeats 3200000 in
theorem cfields (h m s n : Int) (w : World) :
  Calls Tryz.prog 116 #[.agg #[.int .i64 h, .int .i64 m, .int .i64 s, .int .i64 n]] w (fun e w' => e = .returned (.agg #[.int .i64 h, .int .i64 m, .int .i64 s, .int .i64 n]) ∧ Ext w w') := by
 go_enter Tryz.func116, Tryz.ntmps116
 go_upto_region 1 with fail
 have xw := Ext.refl w
 refine wp_name ?_
 intro V1 hV
 replace xw : Ext w V1 := by rw [hV]; exact Ext.alloc (Ext.alloc (xw))
 have b1 : Bx V1 w.heap.size #[.int .i64 h, .int .i64 m, .int .i64 s, .int .i64 n] 25 := by rw [hV]; exact (Bx.new rfl).alloc _
 have b2 : Bx V1 (w.heap.size + 1) #[.int .i64 0, .int .i64 0, .int .i64 0, .int .i64 0] 163 := by rw [hV]; exact Bx.new (by simp)
 clear hV
 have b1_c0 := b1.c 0 (v := .int .i64 h) rfl
 have b1_c1 := b1.c 1 (v := .int .i64 m) rfl
 have b1_c2 := b1.c 2 (v := .int .i64 s) rfl
 have b1_c3 := b1.c 3 (v := .int .i64 n) rfl
 have b2_c0 := b2.c 0 (v := .int .i64 0) rfl
 have b2_c1 := b2.c 1 (v := .int .i64 0) rfl
 have b2_c2 := b2.c 2 (v := .int .i64 0) rfl
 have b2_c3 := b2.c 3 (v := .int .i64 0) rfl
 have b2_f0 := b2.f 0
 have b2_f1 := b2.f 1
 have b2_f2 := b2.f 2
 have b2_f3 := b2.f 3
 have xr := Ext.set (Ext.set (Ext.set (Ext.set (xw) (k := w.heap.size + 1) (o := 0) (u := .int .i64 h) (by omega)) (k := w.heap.size + 1) (o := 1) (u := .int .i64 m) (by omega)) (k := w.heap.size + 1) (o := 2) (u := .int .i64 s) (by omega)) (k := w.heap.size + 1) (o := 3) (u := .int .i64 n) (by omega)
 go_wp2_with fail
 refine bodyPost_ret (v := .agg #[.int .i64 h, .int .i64 m, .int .i64 s, .int .i64 n]) (by simp [results, Tryz.results116, go_sem, b2_c0, b2_c1, b2_c2, b2_c3]) rfl ⟨rfl, xr⟩
set_option maxRecDepth 100000 in
set_option maxHeartbeats 3200000 in
theorem cmost (w : World) :
  Calls Tryz.prog 165 #[] w (fun e w' => e = .returned (.agg #[.int .i64 23, .int .i64 59, .int .i64 59, .int .i64 999999999]) ∧ Ext w w') := by
 go_enter Tryz.func165, Tryz.ntmps165
 go_upto_region 1 with fail
 have xw := Ext.refl w
 refine wp_name ?_
 intro V1 hV
 replace xw : Ext w V1 := by rw [hV]; exact Ext.alloc (xw)
 have b0 : Bx V1 w.heap.size #[.int .i64 0, .int .i64 0, .int .i64 0, .int .i64 0] 163 := by rw [hV]; exact Bx.new rfl
 clear hV
 have b0_c0 := b0.c 0 (v := .int .i64 0) rfl
 have b0_c1 := b0.c 1 (v := .int .i64 0) rfl
 have b0_c2 := b0.c 2 (v := .int .i64 0) rfl
 have b0_c3 := b0.c 3 (v := .int .i64 0) rfl
 have b0_f0 := b0.f 0
 have b0_f1 := b0.f 1
 have b0_f2 := b0.f 2
 have b0_f3 := b0.f 3
 have xr := Ext.set (Ext.set (Ext.set (Ext.set (xw) (k := w.heap.size) (o := 0) (u := .int .i64 23) (by omega)) (k := w.heap.size) (o := 1) (u := .int .i64 59) (by omega)) (k := w.heap.size) (o := 2) (u := .int .i64 59) (by omega)) (k := w.heap.size) (o := 3) (u := .int .i64 999999999) (by omega)
 go_wp2_with fail
 refine bodyPost_ret (v := .agg #[.int .i64 23, .int .i64 59, .int .i64 59, .int .i64 999999999]) (by simp [results, Tryz.results165, go_sem, b0_c0, b0_c1, b0_c2, b0_c3]) rfl ⟨rfl, xr⟩
def pre4 (k : Nat) (h m s n : Int) : Prop := (0 < k → 0 ≤ h ∧ h ≤ 23) ∧ (1 < k → 0 ≤ m ∧ m ≤ 59) ∧ (2 < k → 0 ≤ s ∧ s ≤ 59) ∧ (3 < k → 0 ≤ n ∧ n ≤ 999999999)
set_option maxRecDepth 100000 in
set_option maxHeartbeats 3200000 in
theorem cright (h m s n : Int) (w : World) :
  Calls Tryz.prog 140 #[.agg #[.int .i64 h, .int .i64 m, .int .i64 s, .int .i64 n]] w (fun e w' => e = .returned (.bool (tOkB h m s n)) ∧ Ext w w') := by
 have HF := Lib.hid cfields
 have HM := Lib.hid cmost
 go_enter Tryz.func140, Tryz.ntmps140
 go_upto_region 1 with fail
 have xw := Ext.refl w
 refine wp_name ?_
 intro V1 hV
 replace xw : Ext w V1 := by rw [hV]; exact Ext.alloc (xw)
 have b1 : Bx V1 w.heap.size #[.int .i64 h, .int .i64 m, .int .i64 s, .int .i64 n] 25 := by rw [hV]; exact Bx.new rfl
 clear hV
 have b1_c0 := b1.c 0 (v := .int .i64 h) rfl
 have b1_c1 := b1.c 1 (v := .int .i64 m) rfl
 have b1_c2 := b1.c 2 (v := .int .i64 s) rfl
 have b1_c3 := b1.c 3 (v := .int .i64 n) rfl
 go_wp2_with fail
 refine (HF.out h m s n _).mono ?_
 rintro e w2 ⟨rfl, x2⟩
 clear b1_c0 b1_c1 b1_c2 b1_c3
 replace b1 := b1.ext x2
 replace xw := Ext.trans xw x2
 go_wp2_with fail
 refine (HM.out _).mono ?_
 rintro e w3 ⟨rfl, x3⟩
 replace b1 := b1.ext x3
 replace xw := Ext.trans xw x3
 go_upto_region 2 with fail
 have o5 := b1.kind.lt
 have o6 := xw.size
 refine wp_name ?_
 intro V4 hV
 have b1N : Bx V4 w.heap.size #[.int .i64 h, .int .i64 m, .int .i64 s, .int .i64 n] 25 := by rw [hV]; exact ((b1).alloc _).alloc _
 replace xw : Ext w V4 := by rw [hV]; exact Ext.alloc (Ext.alloc (xw))
 replace b1 := b1N; clear b1N
 have b3 : Bx V4 w3.heap.size #[.int .i64 h, .int .i64 m, .int .i64 s, .int .i64 n] 163 := by rw [hV]; exact (Bx.new rfl).alloc _
 have b4 : Bx V4 (w3.heap.size + 1) #[.int .i64 23, .int .i64 59, .int .i64 59, .int .i64 999999999] 163 := by rw [hV]; exact Bx.new (by simp)
 clear hV
 go_wp2_with fail
 clear b1
 go_loopw [9] (fun s9 wr => ∃ (k : Nat), k ≤ 4 ∧ s9 = .int .i64 k ∧ pre4 k h m s n ∧ Bx wr w3.heap.size #[.int .i64 h, .int .i64 m, .int .i64 s, .int .i64 n] 163 ∧ Bx wr (w3.heap.size + 1) #[.int .i64 23, .int .i64 59, .int .i64 59, .int .i64 999999999] 163 ∧ Ext w wr) (fun s9 _ => 4 - (intOf s9).toNat)
 case atStart => exact ⟨0, by omega, rfl, ⟨by omega, by omega, by omega, by omega⟩, b3, b4, xw⟩
 case round =>
  clear b3 b4 xw
  obtain ⟨k, hk, rfl, hp, b3, b4, xw⟩ := hrel
  refine wp_name ?_
  intro Wr7 hV
  subst hV
  have hk3 : k = 0 ∨ k = 1 ∨ k = 2 ∨ k = 3 ∨ k = 4 := by omega
  clear hk
  rcases hk3 with rfl | rfl | rfl | rfl | rfl
  ·by_cases hlt : h < 0
   ·have g1 : decide (h < 0) = true := by simpa using hlt
    have HD := Lib.hid (show tOkB h m s n = false from tOkB_no (by unfold tOk; omega))
    clear hlt hp
    go_upto_region 5 with fail
    have b3_c0 := b3.c 0 (v := .int .i64 h) rfl
    have b3_c1 := b3.c 1 (v := .int .i64 m) rfl
    have b3_c2 := b3.c 2 (v := .int .i64 s) rfl
    have b3_c3 := b3.c 3 (v := .int .i64 n) rfl
    have b4_c0 := b4.c 0 (v := .int .i64 23) rfl
    have b4_c1 := b4.c 1 (v := .int .i64 59) rfl
    have b4_c2 := b4.c 2 (v := .int .i64 59) rfl
    have b4_c3 := b4.c 3 (v := .int .i64 999999999) rfl
    go_quiet (fail)
    clear b3_c0 b3_c1 b3_c2 b3_c3 b4_c0 b4_c1 b4_c2 b4_c3
    go_upto_region 6 with fail
    refine wp_name ?_
    intro V8 hV
    have b3N : Bx V8 w3.heap.size #[.int .i64 h, .int .i64 m, .int .i64 s, .int .i64 n] 163 := by rw [hV]; exact (b3).drewN _
    have b4N : Bx V8 (w3.heap.size + 1) #[.int .i64 23, .int .i64 59, .int .i64 59, .int .i64 999999999] 163 := by rw [hV]; exact (b4).drewN _
    replace xw : Ext w V8 := by rw [hV]; exact Ext.drewN (xw)
    replace b3 := b3N; clear b3N
    replace b4 := b4N; clear b4N
    clear hV
    have xr := xw
    go_wp2_with fail
    refine bodyPost_ret (v := .bool false) (by simp [results, Tryz.results140, go_sem]) rfl ⟨by rw [HD.out], xr⟩
   ·have g1 : decide (h < 0) = false := by simpa using hlt
    by_cases hgt : 23 < h
    ·have g2 : decide (23 < h) = true := by simpa using hgt
     have HD := Lib.hid (show tOkB h m s n = false from tOkB_no (by unfold tOk; omega))
     clear hlt hgt hp
     go_upto_region 5 with fail
     have b3_c0 := b3.c 0 (v := .int .i64 h) rfl
     have b3_c1 := b3.c 1 (v := .int .i64 m) rfl
     have b3_c2 := b3.c 2 (v := .int .i64 s) rfl
     have b3_c3 := b3.c 3 (v := .int .i64 n) rfl
     have b4_c0 := b4.c 0 (v := .int .i64 23) rfl
     have b4_c1 := b4.c 1 (v := .int .i64 59) rfl
     have b4_c2 := b4.c 2 (v := .int .i64 59) rfl
     have b4_c3 := b4.c 3 (v := .int .i64 999999999) rfl
     go_quiet (fail)
     clear b3_c0 b3_c1 b3_c2 b3_c3 b4_c0 b4_c1 b4_c2 b4_c3
     go_upto_region 6 with fail
     refine wp_name ?_
     intro V9 hV
     have b3N : Bx V9 w3.heap.size #[.int .i64 h, .int .i64 m, .int .i64 s, .int .i64 n] 163 := by rw [hV]; exact (b3).drewN _
     have b4N : Bx V9 (w3.heap.size + 1) #[.int .i64 23, .int .i64 59, .int .i64 59, .int .i64 999999999] 163 := by rw [hV]; exact (b4).drewN _
     replace xw : Ext w V9 := by rw [hV]; exact Ext.drewN (xw)
     replace b3 := b3N; clear b3N
     replace b4 := b4N; clear b4N
     clear hV
     have xr := xw
     go_wp2_with fail
     refine bodyPost_ret (v := .bool false) (by simp [results, Tryz.results140, go_sem]) rfl ⟨by rw [HD.out], xr⟩
    ·skip
     have g2 : decide (23 < h) = false := by simpa using hgt
     have hp2 := Lib.hid (show pre4 1 h m s n by unfold pre4 at *; omega)
     clear hlt hgt hp
     go_upto_region 5 with fail
     have b3_c0 := b3.c 0 (v := .int .i64 h) rfl
     have b3_c1 := b3.c 1 (v := .int .i64 m) rfl
     have b3_c2 := b3.c 2 (v := .int .i64 s) rfl
     have b3_c3 := b3.c 3 (v := .int .i64 n) rfl
     have b4_c0 := b4.c 0 (v := .int .i64 23) rfl
     have b4_c1 := b4.c 1 (v := .int .i64 59) rfl
     have b4_c2 := b4.c 2 (v := .int .i64 59) rfl
     have b4_c3 := b4.c 3 (v := .int .i64 999999999) rfl
     go_quiet (fail)
     clear b3_c0 b3_c1 b3_c2 b3_c3 b4_c0 b4_c1 b4_c2 b4_c3
     go_upto_region 7 with fail
     refine wp_name ?_
     intro V10 hV
     have b3N : Bx V10 w3.heap.size #[.int .i64 h, .int .i64 m, .int .i64 s, .int .i64 n] 163 := by rw [hV]; exact (b3).drewN _
     have b4N : Bx V10 (w3.heap.size + 1) #[.int .i64 23, .int .i64 59, .int .i64 59, .int .i64 999999999] 163 := by rw [hV]; exact (b4).drewN _
     replace xw : Ext w V10 := by rw [hV]; exact Ext.drewN (xw)
     replace b3 := b3N; clear b3N
     replace b4 := b4N; clear b4N
     clear hV
     go_wp2_with fail
     go_roundw
     case rel => exact ⟨1, by omega, by go_num, hp2.out, b3, b4, xw⟩
     case measure => simp [intOf] <;> omega
  ·by_cases hlt : m < 0
   ·have g1 : decide (m < 0) = true := by simpa using hlt
    have HD := Lib.hid (show tOkB h m s n = false from tOkB_no (by unfold tOk; omega))
    clear hlt hp
    go_upto_region 5 with fail
    have b3_c0 := b3.c 0 (v := .int .i64 h) rfl
    have b3_c1 := b3.c 1 (v := .int .i64 m) rfl
    have b3_c2 := b3.c 2 (v := .int .i64 s) rfl
    have b3_c3 := b3.c 3 (v := .int .i64 n) rfl
    have b4_c0 := b4.c 0 (v := .int .i64 23) rfl
    have b4_c1 := b4.c 1 (v := .int .i64 59) rfl
    have b4_c2 := b4.c 2 (v := .int .i64 59) rfl
    have b4_c3 := b4.c 3 (v := .int .i64 999999999) rfl
    go_quiet (fail)
    clear b3_c0 b3_c1 b3_c2 b3_c3 b4_c0 b4_c1 b4_c2 b4_c3
    go_upto_region 6 with fail
    refine wp_name ?_
    intro V11 hV
    have b3N : Bx V11 w3.heap.size #[.int .i64 h, .int .i64 m, .int .i64 s, .int .i64 n] 163 := by rw [hV]; exact (b3).drewN _
    have b4N : Bx V11 (w3.heap.size + 1) #[.int .i64 23, .int .i64 59, .int .i64 59, .int .i64 999999999] 163 := by rw [hV]; exact (b4).drewN _
    replace xw : Ext w V11 := by rw [hV]; exact Ext.drewN (xw)
    replace b3 := b3N; clear b3N
    replace b4 := b4N; clear b4N
    clear hV
    have xr := xw
    go_wp2_with fail
    refine bodyPost_ret (v := .bool false) (by simp [results, Tryz.results140, go_sem]) rfl ⟨by rw [HD.out], xr⟩
   ·have g1 : decide (m < 0) = false := by simpa using hlt
    by_cases hgt : 59 < m
    ·have g2 : decide (59 < m) = true := by simpa using hgt
     have HD := Lib.hid (show tOkB h m s n = false from tOkB_no (by unfold tOk; omega))
     clear hlt hgt hp
     go_upto_region 5 with fail
     have b3_c0 := b3.c 0 (v := .int .i64 h) rfl
     have b3_c1 := b3.c 1 (v := .int .i64 m) rfl
     have b3_c2 := b3.c 2 (v := .int .i64 s) rfl
     have b3_c3 := b3.c 3 (v := .int .i64 n) rfl
     have b4_c0 := b4.c 0 (v := .int .i64 23) rfl
     have b4_c1 := b4.c 1 (v := .int .i64 59) rfl
     have b4_c2 := b4.c 2 (v := .int .i64 59) rfl
     have b4_c3 := b4.c 3 (v := .int .i64 999999999) rfl
     go_quiet (fail)
     clear b3_c0 b3_c1 b3_c2 b3_c3 b4_c0 b4_c1 b4_c2 b4_c3
     go_upto_region 6 with fail
     refine wp_name ?_
     intro V12 hV
     have b3N : Bx V12 w3.heap.size #[.int .i64 h, .int .i64 m, .int .i64 s, .int .i64 n] 163 := by rw [hV]; exact (b3).drewN _
     have b4N : Bx V12 (w3.heap.size + 1) #[.int .i64 23, .int .i64 59, .int .i64 59, .int .i64 999999999] 163 := by rw [hV]; exact (b4).drewN _
     replace xw : Ext w V12 := by rw [hV]; exact Ext.drewN (xw)
     replace b3 := b3N; clear b3N
     replace b4 := b4N; clear b4N
     clear hV
     have xr := xw
     go_wp2_with fail
     refine bodyPost_ret (v := .bool false) (by simp [results, Tryz.results140, go_sem]) rfl ⟨by rw [HD.out], xr⟩
    ·skip
     have g2 : decide (59 < m) = false := by simpa using hgt
     have hp2 := Lib.hid (show pre4 2 h m s n by unfold pre4 at *; omega)
     clear hlt hgt hp
     go_upto_region 5 with fail
     have b3_c0 := b3.c 0 (v := .int .i64 h) rfl
     have b3_c1 := b3.c 1 (v := .int .i64 m) rfl
     have b3_c2 := b3.c 2 (v := .int .i64 s) rfl
     have b3_c3 := b3.c 3 (v := .int .i64 n) rfl
     have b4_c0 := b4.c 0 (v := .int .i64 23) rfl
     have b4_c1 := b4.c 1 (v := .int .i64 59) rfl
     have b4_c2 := b4.c 2 (v := .int .i64 59) rfl
     have b4_c3 := b4.c 3 (v := .int .i64 999999999) rfl
     go_quiet (fail)
     clear b3_c0 b3_c1 b3_c2 b3_c3 b4_c0 b4_c1 b4_c2 b4_c3
     go_upto_region 7 with fail
     refine wp_name ?_
     intro V13 hV
     have b3N : Bx V13 w3.heap.size #[.int .i64 h, .int .i64 m, .int .i64 s, .int .i64 n] 163 := by rw [hV]; exact (b3).drewN _
     have b4N : Bx V13 (w3.heap.size + 1) #[.int .i64 23, .int .i64 59, .int .i64 59, .int .i64 999999999] 163 := by rw [hV]; exact (b4).drewN _
     replace xw : Ext w V13 := by rw [hV]; exact Ext.drewN (xw)
     replace b3 := b3N; clear b3N
     replace b4 := b4N; clear b4N
     clear hV
     go_wp2_with fail
     go_roundw
     case rel => exact ⟨2, by omega, by go_num, hp2.out, b3, b4, xw⟩
     case measure => simp [intOf] <;> omega
  ·by_cases hlt : s < 0
   ·have g1 : decide (s < 0) = true := by simpa using hlt
    have HD := Lib.hid (show tOkB h m s n = false from tOkB_no (by unfold tOk; omega))
    clear hlt hp
    go_upto_region 5 with fail
    have b3_c0 := b3.c 0 (v := .int .i64 h) rfl
    have b3_c1 := b3.c 1 (v := .int .i64 m) rfl
    have b3_c2 := b3.c 2 (v := .int .i64 s) rfl
    have b3_c3 := b3.c 3 (v := .int .i64 n) rfl
    have b4_c0 := b4.c 0 (v := .int .i64 23) rfl
    have b4_c1 := b4.c 1 (v := .int .i64 59) rfl
    have b4_c2 := b4.c 2 (v := .int .i64 59) rfl
    have b4_c3 := b4.c 3 (v := .int .i64 999999999) rfl
    go_quiet (fail)
    clear b3_c0 b3_c1 b3_c2 b3_c3 b4_c0 b4_c1 b4_c2 b4_c3
    go_upto_region 6 with fail
    refine wp_name ?_
    intro V14 hV
    have b3N : Bx V14 w3.heap.size #[.int .i64 h, .int .i64 m, .int .i64 s, .int .i64 n] 163 := by rw [hV]; exact (b3).drewN _
    have b4N : Bx V14 (w3.heap.size + 1) #[.int .i64 23, .int .i64 59, .int .i64 59, .int .i64 999999999] 163 := by rw [hV]; exact (b4).drewN _
    replace xw : Ext w V14 := by rw [hV]; exact Ext.drewN (xw)
    replace b3 := b3N; clear b3N
    replace b4 := b4N; clear b4N
    clear hV
    have xr := xw
    go_wp2_with fail
    refine bodyPost_ret (v := .bool false) (by simp [results, Tryz.results140, go_sem]) rfl ⟨by rw [HD.out], xr⟩
   ·have g1 : decide (s < 0) = false := by simpa using hlt
    by_cases hgt : 59 < s
    ·have g2 : decide (59 < s) = true := by simpa using hgt
     have HD := Lib.hid (show tOkB h m s n = false from tOkB_no (by unfold tOk; omega))
     clear hlt hgt hp
     go_upto_region 5 with fail
     have b3_c0 := b3.c 0 (v := .int .i64 h) rfl
     have b3_c1 := b3.c 1 (v := .int .i64 m) rfl
     have b3_c2 := b3.c 2 (v := .int .i64 s) rfl
     have b3_c3 := b3.c 3 (v := .int .i64 n) rfl
     have b4_c0 := b4.c 0 (v := .int .i64 23) rfl
     have b4_c1 := b4.c 1 (v := .int .i64 59) rfl
     have b4_c2 := b4.c 2 (v := .int .i64 59) rfl
     have b4_c3 := b4.c 3 (v := .int .i64 999999999) rfl
     go_quiet (fail)
     clear b3_c0 b3_c1 b3_c2 b3_c3 b4_c0 b4_c1 b4_c2 b4_c3
     go_upto_region 6 with fail
     refine wp_name ?_
     intro V15 hV
     have b3N : Bx V15 w3.heap.size #[.int .i64 h, .int .i64 m, .int .i64 s, .int .i64 n] 163 := by rw [hV]; exact (b3).drewN _
     have b4N : Bx V15 (w3.heap.size + 1) #[.int .i64 23, .int .i64 59, .int .i64 59, .int .i64 999999999] 163 := by rw [hV]; exact (b4).drewN _
     replace xw : Ext w V15 := by rw [hV]; exact Ext.drewN (xw)
     replace b3 := b3N; clear b3N
     replace b4 := b4N; clear b4N
     clear hV
     have xr := xw
     go_wp2_with fail
     refine bodyPost_ret (v := .bool false) (by simp [results, Tryz.results140, go_sem]) rfl ⟨by rw [HD.out], xr⟩
    ·skip
     have g2 : decide (59 < s) = false := by simpa using hgt
     have hp2 := Lib.hid (show pre4 3 h m s n by unfold pre4 at *; omega)
     clear hlt hgt hp
     go_upto_region 5 with fail
     have b3_c0 := b3.c 0 (v := .int .i64 h) rfl
     have b3_c1 := b3.c 1 (v := .int .i64 m) rfl
     have b3_c2 := b3.c 2 (v := .int .i64 s) rfl
     have b3_c3 := b3.c 3 (v := .int .i64 n) rfl
     have b4_c0 := b4.c 0 (v := .int .i64 23) rfl
     have b4_c1 := b4.c 1 (v := .int .i64 59) rfl
     have b4_c2 := b4.c 2 (v := .int .i64 59) rfl
     have b4_c3 := b4.c 3 (v := .int .i64 999999999) rfl
     go_quiet (fail)
     clear b3_c0 b3_c1 b3_c2 b3_c3 b4_c0 b4_c1 b4_c2 b4_c3
     go_upto_region 7 with fail
     refine wp_name ?_
     intro V16 hV
     have b3N : Bx V16 w3.heap.size #[.int .i64 h, .int .i64 m, .int .i64 s, .int .i64 n] 163 := by rw [hV]; exact (b3).drewN _
     have b4N : Bx V16 (w3.heap.size + 1) #[.int .i64 23, .int .i64 59, .int .i64 59, .int .i64 999999999] 163 := by rw [hV]; exact (b4).drewN _
     replace xw : Ext w V16 := by rw [hV]; exact Ext.drewN (xw)
     replace b3 := b3N; clear b3N
     replace b4 := b4N; clear b4N
     clear hV
     go_wp2_with fail
     go_roundw
     case rel => exact ⟨3, by omega, by go_num, hp2.out, b3, b4, xw⟩
     case measure => simp [intOf] <;> omega
  ·by_cases hlt : n < 0
   ·have g1 : decide (n < 0) = true := by simpa using hlt
    have HD := Lib.hid (show tOkB h m s n = false from tOkB_no (by unfold tOk; omega))
    clear hlt hp
    go_upto_region 5 with fail
    have b3_c0 := b3.c 0 (v := .int .i64 h) rfl
    have b3_c1 := b3.c 1 (v := .int .i64 m) rfl
    have b3_c2 := b3.c 2 (v := .int .i64 s) rfl
    have b3_c3 := b3.c 3 (v := .int .i64 n) rfl
    have b4_c0 := b4.c 0 (v := .int .i64 23) rfl
    have b4_c1 := b4.c 1 (v := .int .i64 59) rfl
    have b4_c2 := b4.c 2 (v := .int .i64 59) rfl
    have b4_c3 := b4.c 3 (v := .int .i64 999999999) rfl
    go_quiet (fail)
    clear b3_c0 b3_c1 b3_c2 b3_c3 b4_c0 b4_c1 b4_c2 b4_c3
    go_upto_region 6 with fail
    refine wp_name ?_
    intro V17 hV
    have b3N : Bx V17 w3.heap.size #[.int .i64 h, .int .i64 m, .int .i64 s, .int .i64 n] 163 := by rw [hV]; exact (b3).drewN _
    have b4N : Bx V17 (w3.heap.size + 1) #[.int .i64 23, .int .i64 59, .int .i64 59, .int .i64 999999999] 163 := by rw [hV]; exact (b4).drewN _
    replace xw : Ext w V17 := by rw [hV]; exact Ext.drewN (xw)
    replace b3 := b3N; clear b3N
    replace b4 := b4N; clear b4N
    clear hV
    have xr := xw
    go_wp2_with fail
    refine bodyPost_ret (v := .bool false) (by simp [results, Tryz.results140, go_sem]) rfl ⟨by rw [HD.out], xr⟩
   ·have g1 : decide (n < 0) = false := by simpa using hlt
    by_cases hgt : 999999999 < n
    ·have g2 : decide (999999999 < n) = true := by simpa using hgt
     have HD := Lib.hid (show tOkB h m s n = false from tOkB_no (by unfold tOk; omega))
     clear hlt hgt hp
     go_upto_region 5 with fail
     have b3_c0 := b3.c 0 (v := .int .i64 h) rfl
     have b3_c1 := b3.c 1 (v := .int .i64 m) rfl
     have b3_c2 := b3.c 2 (v := .int .i64 s) rfl
     have b3_c3 := b3.c 3 (v := .int .i64 n) rfl
     have b4_c0 := b4.c 0 (v := .int .i64 23) rfl
     have b4_c1 := b4.c 1 (v := .int .i64 59) rfl
     have b4_c2 := b4.c 2 (v := .int .i64 59) rfl
     have b4_c3 := b4.c 3 (v := .int .i64 999999999) rfl
     go_quiet (fail)
     clear b3_c0 b3_c1 b3_c2 b3_c3 b4_c0 b4_c1 b4_c2 b4_c3
     go_upto_region 6 with fail
     refine wp_name ?_
     intro V18 hV
     have b3N : Bx V18 w3.heap.size #[.int .i64 h, .int .i64 m, .int .i64 s, .int .i64 n] 163 := by rw [hV]; exact (b3).drewN _
     have b4N : Bx V18 (w3.heap.size + 1) #[.int .i64 23, .int .i64 59, .int .i64 59, .int .i64 999999999] 163 := by rw [hV]; exact (b4).drewN _
     replace xw : Ext w V18 := by rw [hV]; exact Ext.drewN (xw)
     replace b3 := b3N; clear b3N
     replace b4 := b4N; clear b4N
     clear hV
     have xr := xw
     go_wp2_with fail
     refine bodyPost_ret (v := .bool false) (by simp [results, Tryz.results140, go_sem]) rfl ⟨by rw [HD.out], xr⟩
    ·skip
     have g2 : decide (999999999 < n) = false := by simpa using hgt
     have hp2 := Lib.hid (show pre4 4 h m s n by unfold pre4 at *; omega)
     clear hlt hgt hp
     go_upto_region 5 with fail
     have b3_c0 := b3.c 0 (v := .int .i64 h) rfl
     have b3_c1 := b3.c 1 (v := .int .i64 m) rfl
     have b3_c2 := b3.c 2 (v := .int .i64 s) rfl
     have b3_c3 := b3.c 3 (v := .int .i64 n) rfl
     have b4_c0 := b4.c 0 (v := .int .i64 23) rfl
     have b4_c1 := b4.c 1 (v := .int .i64 59) rfl
     have b4_c2 := b4.c 2 (v := .int .i64 59) rfl
     have b4_c3 := b4.c 3 (v := .int .i64 999999999) rfl
     go_quiet (fail)
     clear b3_c0 b3_c1 b3_c2 b3_c3 b4_c0 b4_c1 b4_c2 b4_c3
     go_upto_region 7 with fail
     refine wp_name ?_
     intro V19 hV
     have b3N : Bx V19 w3.heap.size #[.int .i64 h, .int .i64 m, .int .i64 s, .int .i64 n] 163 := by rw [hV]; exact (b3).drewN _
     have b4N : Bx V19 (w3.heap.size + 1) #[.int .i64 23, .int .i64 59, .int .i64 59, .int .i64 999999999] 163 := by rw [hV]; exact (b4).drewN _
     replace xw : Ext w V19 := by rw [hV]; exact Ext.drewN (xw)
     replace b3 := b3N; clear b3N
     replace b4 := b4N; clear b4N
     clear hV
     go_wp2_with fail
     go_roundw
     case rel => exact ⟨4, by omega, by go_num, hp2.out, b3, b4, xw⟩
     case measure => simp [intOf] <;> omega
  ·have HD := Lib.hid (show tOkB h m s n = true from tOkB_yes (by unfold pre4 at hp; unfold tOk; omega))
   clear hp
   go_upto_region 8 with fail
   have xr := xw
   go_wp2_with fail
   refine bodyPost_ret (v := .bool true) (by simp [results, Tryz.results140, go_sem]) rfl ⟨by rw [HD.out], xr⟩
set_option maxRecDepth 100000 in
set_option maxHeartbeats 3200000 in
theorem cnanos_yes (h m s n : Int) (w : World) (k : tOk h m s n) :
  Calls Tryz.prog 98 #[.agg #[.int .i64 h, .int .i64 m, .int .i64 s, .int .i64 n]] w (fun e w' => e = .returned (.tuple #[.int .i64 (tnan h m s n), .bool true]) ∧ Ext w w') := by
 have HR := Lib.hid cright
 have HK := Lib.hid (tOkB_yes k)
 obtain ⟨⟨h0, h1⟩, ⟨m0, m1⟩, ⟨s0, s1⟩, ⟨n0, n1⟩⟩ := k
 unfold tnan
 go_enter Tryz.func98, Tryz.ntmps98
 go_upto_region 1 with fail
 have xw := Ext.refl w
 refine wp_name ?_
 intro V1 hV
 replace xw : Ext w V1 := by rw [hV]; exact Ext.alloc (xw)
 have b1 : Bx V1 w.heap.size #[.int .i64 h, .int .i64 m, .int .i64 s, .int .i64 n] 25 := by rw [hV]; exact Bx.new rfl
 clear hV
 have b1_c0 := b1.c 0 (v := .int .i64 h) rfl
 have b1_c1 := b1.c 1 (v := .int .i64 m) rfl
 have b1_c2 := b1.c 2 (v := .int .i64 s) rfl
 have b1_c3 := b1.c 3 (v := .int .i64 n) rfl
 go_wp2_with fail
 refine (HR.out h m s n _).mono ?_
 rw [HK.out]
 rintro e w2 ⟨rfl, x2⟩
 clear b1_c0 b1_c1 b1_c2 b1_c3
 replace b1 := b1.ext x2
 replace xw := Ext.trans xw x2
 go_upto_region 3 with fail
 have b1_c0 := b1.c 0 (v := .int .i64 h) rfl
 have b1_c1 := b1.c 1 (v := .int .i64 m) rfl
 have b1_c2 := b1.c 2 (v := .int .i64 s) rfl
 have b1_c3 := b1.c 3 (v := .int .i64 n) rfl
 have xr := xw
 go_wp2_with fail
 refine bodyPost_ret (v := .tuple #[.int .i64 (((h * 60 + m) * 60 + s) * 1000000000 + n), .bool true]) (by simp [results, Tryz.results98, go_sem]) rfl ⟨rfl, xr⟩
set_option maxRecDepth 100000 in
set_option maxHeartbeats 3200000 in
theorem cnanos_no (h m s n : Int) (w : World) (k : ¬ tOk h m s n) :
  Calls Tryz.prog 98 #[.agg #[.int .i64 h, .int .i64 m, .int .i64 s, .int .i64 n]] w (fun e w' => e = .returned (.tuple #[.int .i64 0, .bool false]) ∧ Ext w w') := by
 have HR := Lib.hid cright
 have HK := Lib.hid (tOkB_no k)
 go_enter Tryz.func98, Tryz.ntmps98
 go_upto_region 1 with fail
 have xw := Ext.refl w
 refine wp_name ?_
 intro V1 hV
 replace xw : Ext w V1 := by rw [hV]; exact Ext.alloc (xw)
 have b1 : Bx V1 w.heap.size #[.int .i64 h, .int .i64 m, .int .i64 s, .int .i64 n] 25 := by rw [hV]; exact Bx.new rfl
 clear hV
 have b1_c0 := b1.c 0 (v := .int .i64 h) rfl
 have b1_c1 := b1.c 1 (v := .int .i64 m) rfl
 have b1_c2 := b1.c 2 (v := .int .i64 s) rfl
 have b1_c3 := b1.c 3 (v := .int .i64 n) rfl
 go_wp2_with fail
 refine (HR.out h m s n _).mono ?_
 rw [HK.out]
 rintro e w2 ⟨rfl, x2⟩
 clear b1_c0 b1_c1 b1_c2 b1_c3
 replace b1 := b1.ext x2
 replace xw := Ext.trans xw x2
 go_upto_region 2 with fail
 have xr := xw
 go_wp2_with fail
 refine bodyPost_ret (v := .tuple #[.int .i64 0, .bool false]) (by simp [results, Tryz.results98, go_sem]) rfl ⟨rfl, xr⟩
set_option maxRecDepth 100000 in
set_option maxHeartbeats 3200000 in
theorem cof_yes (n : Int) (w : World) (h0 : 0 ≤ n) (h1 : n < 86400000000000) :
  Calls Tryz.prog 120 #[.int .i64 n] w (fun e w' => e = .returned (.tuple #[.agg #[.int .i64 (tH n), .int .i64 (tM n), .int .i64 (tS n), .int .i64 (tN n)], .bool true]) ∧ Ext w w') := by
 have HE := Lib.hid (show n / 1000000000 / 3600 = tH n ∧ n / 1000000000 / 60 % 60 = tM n ∧ n / 1000000000 % 60 = tS n ∧ n % 1000000000 = tN n by unfold tH tM tS tN; omega)
 have q0 : 0 ≤ n / 1000000000 := by omega
 have q1 : n / 1000000000 ≤ 86400 := by omega
 have q2 : 0 ≤ n / 1000000000 / 60 := by omega
 have q3 : n / 1000000000 / 60 ≤ 86400 := by omega
 have q4 : 0 ≤ n / 1000000000 / 3600 := by omega
 have q5 : n / 1000000000 / 3600 ≤ 86400 := by omega
 go_enter Tryz.func120, Tryz.ntmps120
 go_upto_region 1 with fail
 have xw := Ext.refl w
 refine wp_name ?_
 intro V1 hV
 replace xw : Ext w V1 := by rw [hV]; exact Ext.alloc (xw)
 have b2 : Bx V1 w.heap.size #[.int .i64 0, .int .i64 0, .int .i64 0, .int .i64 0] 25 := by rw [hV]; exact Bx.new rfl
 clear hV
 go_upto_region 3 with fail
 go_upto_region 4 with fail
 have b2_c0 := b2.c 0 (v := .int .i64 0) rfl
 have b2_c1 := b2.c 1 (v := .int .i64 0) rfl
 have b2_c2 := b2.c 2 (v := .int .i64 0) rfl
 have b2_c3 := b2.c 3 (v := .int .i64 0) rfl
 have b2_f0 := b2.f 0
 have b2_f1 := b2.f 1
 have b2_f2 := b2.f 2
 have b2_f3 := b2.f 3
 go_wp2_with fail
 refine bodyPost_ret (v := .tuple #[.agg #[.int .i64 (n / 1000000000 / 3600), .int .i64 (n / 1000000000 / 60 % 60), .int .i64 (n / 1000000000 % 60), .int .i64 (n % 1000000000)], .bool true]) (by simp [results, Tryz.results120, go_sem, b2_c0, b2_c1, b2_c2, b2_c3]) rfl ⟨by rw [HE.out.1, HE.out.2.1, HE.out.2.2.1, HE.out.2.2.2], (Ext.set (Ext.set (Ext.set (Ext.set (xw) (by omega)) (by omega)) (by omega)) (by omega))⟩
end Go.Proofs.YthoedmikfpbfnaaGreat
end
section
namespace Go.Proofs.YthoedmikfpbfnaaGreat
open Go Go.RowKit

set_option maxRecDepth 100000 in
set_option maxHeartbeats 3200000 in
theorem zright (h m s n : Int) (w : World) :
  Calls Tryz.prog 28 #[.agg #[.int .i64 h, .int .i64 m, .int .i64 s, .int .i64 n]] w (fun e w' => e = .returned (.bool (tOkB h m s n)) ∧ Ext w w') := by
 by_cases q0 : 0 ≤ h
 ·have g0 : decide (0 ≤ h) = true := decide_eq_true q0
  by_cases q1 : h < 24
  ·have g1 : decide (h < 24) = true := decide_eq_true q1
   by_cases q2 : 0 ≤ m
   ·have g2 : decide (0 ≤ m) = true := decide_eq_true q2
    by_cases q3 : m < 60
    ·have g3 : decide (m < 60) = true := decide_eq_true q3
     by_cases q4 : 0 ≤ s
     ·have g4 : decide (0 ≤ s) = true := decide_eq_true q4
      by_cases q5 : s < 60
      ·have g5 : decide (s < 60) = true := decide_eq_true q5
       by_cases q6 : 0 ≤ n
       ·have g6 : decide (0 ≤ n) = true := decide_eq_true q6
        by_cases q7 : n < 1000000000
        ·have g7 : decide (n < 1000000000) = true := decide_eq_true q7
         have HD := Lib.hid (show tOkB h m s n = true from tOkB_yes (by unfold tOk; omega))
         clear q0 q1 q2 q3 q4 q5 q6 q7
         go_enter Tryz.func28, Tryz.ntmps28
         go_upto_region 1 with fail
         have xw := Ext.refl w
         refine wp_name ?_
         intro V1 hV
         replace xw : Ext w V1 := by rw [hV]; exact Ext.alloc (xw)
         have b1 : Bx V1 w.heap.size #[.int .i64 h, .int .i64 m, .int .i64 s, .int .i64 n] 25 := by rw [hV]; exact Bx.new rfl
         clear hV
         have b1_c0 := b1.c 0 (v := .int .i64 h) rfl
         have b1_c1 := b1.c 1 (v := .int .i64 m) rfl
         have b1_c2 := b1.c 2 (v := .int .i64 s) rfl
         have b1_c3 := b1.c 3 (v := .int .i64 n) rfl
         have xr := xw
         go_wp2_with fail
         refine bodyPost_ret (v := .bool true) (by simp [results, Tryz.results28, go_sem]) rfl ⟨by rw [HD.out], xr⟩
        ·have g7 : decide (n < 1000000000) = false := decide_eq_false q7
         have HD := Lib.hid (show tOkB h m s n = false from tOkB_no (by unfold tOk; omega))
         clear q0 q1 q2 q3 q4 q5 q6 q7
         go_enter Tryz.func28, Tryz.ntmps28
         go_upto_region 1 with fail
         have xw := Ext.refl w
         refine wp_name ?_
         intro V1 hV
         replace xw : Ext w V1 := by rw [hV]; exact Ext.alloc (xw)
         have b1 : Bx V1 w.heap.size #[.int .i64 h, .int .i64 m, .int .i64 s, .int .i64 n] 25 := by rw [hV]; exact Bx.new rfl
         clear hV
         have b1_c0 := b1.c 0 (v := .int .i64 h) rfl
         have b1_c1 := b1.c 1 (v := .int .i64 m) rfl
         have b1_c2 := b1.c 2 (v := .int .i64 s) rfl
         have b1_c3 := b1.c 3 (v := .int .i64 n) rfl
         have xr := xw
         go_wp2_with fail
         refine bodyPost_ret (v := .bool false) (by simp [results, Tryz.results28, go_sem]) rfl ⟨by rw [HD.out], xr⟩
       ·have g6 : decide (0 ≤ n) = false := decide_eq_false q6
        have HD := Lib.hid (show tOkB h m s n = false from tOkB_no (by unfold tOk; omega))
        clear q0 q1 q2 q3 q4 q5 q6
        go_enter Tryz.func28, Tryz.ntmps28
        go_upto_region 1 with fail
        have xw := Ext.refl w
        refine wp_name ?_
        intro V1 hV
        replace xw : Ext w V1 := by rw [hV]; exact Ext.alloc (xw)
        have b1 : Bx V1 w.heap.size #[.int .i64 h, .int .i64 m, .int .i64 s, .int .i64 n] 25 := by rw [hV]; exact Bx.new rfl
        clear hV
        have b1_c0 := b1.c 0 (v := .int .i64 h) rfl
        have b1_c1 := b1.c 1 (v := .int .i64 m) rfl
        have b1_c2 := b1.c 2 (v := .int .i64 s) rfl
        have b1_c3 := b1.c 3 (v := .int .i64 n) rfl
        have xr := xw
        go_wp2_with fail
        refine bodyPost_ret (v := .bool false) (by simp [results, Tryz.results28, go_sem]) rfl ⟨by rw [HD.out], xr⟩
      ·have g5 : decide (s < 60) = false := decide_eq_false q5
       have HD := Lib.hid (show tOkB h m s n = false from tOkB_no (by unfold tOk; omega))
       clear q0 q1 q2 q3 q4 q5
       go_enter Tryz.func28, Tryz.ntmps28
       go_upto_region 1 with fail
       have xw := Ext.refl w
       refine wp_name ?_
       intro V1 hV
       replace xw : Ext w V1 := by rw [hV]; exact Ext.alloc (xw)
       have b1 : Bx V1 w.heap.size #[.int .i64 h, .int .i64 m, .int .i64 s, .int .i64 n] 25 := by rw [hV]; exact Bx.new rfl
       clear hV
       have b1_c0 := b1.c 0 (v := .int .i64 h) rfl
       have b1_c1 := b1.c 1 (v := .int .i64 m) rfl
       have b1_c2 := b1.c 2 (v := .int .i64 s) rfl
       have b1_c3 := b1.c 3 (v := .int .i64 n) rfl
       have xr := xw
       go_wp2_with fail
       refine bodyPost_ret (v := .bool false) (by simp [results, Tryz.results28, go_sem]) rfl ⟨by rw [HD.out], xr⟩
     ·have g4 : decide (0 ≤ s) = false := decide_eq_false q4
      have HD := Lib.hid (show tOkB h m s n = false from tOkB_no (by unfold tOk; omega))
      clear q0 q1 q2 q3 q4
      go_enter Tryz.func28, Tryz.ntmps28
      go_upto_region 1 with fail
      have xw := Ext.refl w
      refine wp_name ?_
      intro V1 hV
      replace xw : Ext w V1 := by rw [hV]; exact Ext.alloc (xw)
      have b1 : Bx V1 w.heap.size #[.int .i64 h, .int .i64 m, .int .i64 s, .int .i64 n] 25 := by rw [hV]; exact Bx.new rfl
      clear hV
      have b1_c0 := b1.c 0 (v := .int .i64 h) rfl
      have b1_c1 := b1.c 1 (v := .int .i64 m) rfl
      have b1_c2 := b1.c 2 (v := .int .i64 s) rfl
      have b1_c3 := b1.c 3 (v := .int .i64 n) rfl
      have xr := xw
      go_wp2_with fail
      refine bodyPost_ret (v := .bool false) (by simp [results, Tryz.results28, go_sem]) rfl ⟨by rw [HD.out], xr⟩
    ·have g3 : decide (m < 60) = false := decide_eq_false q3
     have HD := Lib.hid (show tOkB h m s n = false from tOkB_no (by unfold tOk; omega))
     clear q0 q1 q2 q3
     go_enter Tryz.func28, Tryz.ntmps28
     go_upto_region 1 with fail
     have xw := Ext.refl w
     refine wp_name ?_
     intro V1 hV
     replace xw : Ext w V1 := by rw [hV]; exact Ext.alloc (xw)
     have b1 : Bx V1 w.heap.size #[.int .i64 h, .int .i64 m, .int .i64 s, .int .i64 n] 25 := by rw [hV]; exact Bx.new rfl
     clear hV
     have b1_c0 := b1.c 0 (v := .int .i64 h) rfl
     have b1_c1 := b1.c 1 (v := .int .i64 m) rfl
     have b1_c2 := b1.c 2 (v := .int .i64 s) rfl
     have b1_c3 := b1.c 3 (v := .int .i64 n) rfl
     have xr := xw
     go_wp2_with fail
     refine bodyPost_ret (v := .bool false) (by simp [results, Tryz.results28, go_sem]) rfl ⟨by rw [HD.out], xr⟩
   ·have g2 : decide (0 ≤ m) = false := decide_eq_false q2
    have HD := Lib.hid (show tOkB h m s n = false from tOkB_no (by unfold tOk; omega))
    clear q0 q1 q2
    go_enter Tryz.func28, Tryz.ntmps28
    go_upto_region 1 with fail
    have xw := Ext.refl w
    refine wp_name ?_
    intro V1 hV
    replace xw : Ext w V1 := by rw [hV]; exact Ext.alloc (xw)
    have b1 : Bx V1 w.heap.size #[.int .i64 h, .int .i64 m, .int .i64 s, .int .i64 n] 25 := by rw [hV]; exact Bx.new rfl
    clear hV
    have b1_c0 := b1.c 0 (v := .int .i64 h) rfl
    have b1_c1 := b1.c 1 (v := .int .i64 m) rfl
    have b1_c2 := b1.c 2 (v := .int .i64 s) rfl
    have b1_c3 := b1.c 3 (v := .int .i64 n) rfl
    have xr := xw
    go_wp2_with fail
    refine bodyPost_ret (v := .bool false) (by simp [results, Tryz.results28, go_sem]) rfl ⟨by rw [HD.out], xr⟩
  ·have g1 : decide (h < 24) = false := decide_eq_false q1
   have HD := Lib.hid (show tOkB h m s n = false from tOkB_no (by unfold tOk; omega))
   clear q0 q1
   go_enter Tryz.func28, Tryz.ntmps28
   go_upto_region 1 with fail
   have xw := Ext.refl w
   refine wp_name ?_
   intro V1 hV
   replace xw : Ext w V1 := by rw [hV]; exact Ext.alloc (xw)
   have b1 : Bx V1 w.heap.size #[.int .i64 h, .int .i64 m, .int .i64 s, .int .i64 n] 25 := by rw [hV]; exact Bx.new rfl
   clear hV
   have b1_c0 := b1.c 0 (v := .int .i64 h) rfl
   have b1_c1 := b1.c 1 (v := .int .i64 m) rfl
   have b1_c2 := b1.c 2 (v := .int .i64 s) rfl
   have b1_c3 := b1.c 3 (v := .int .i64 n) rfl
   have xr := xw
   go_wp2_with fail
   refine bodyPost_ret (v := .bool false) (by simp [results, Tryz.results28, go_sem]) rfl ⟨by rw [HD.out], xr⟩
 ·have g0 : decide (0 ≤ h) = false := decide_eq_false q0
  have HD := Lib.hid (show tOkB h m s n = false from tOkB_no (by unfold tOk; omega))
  clear q0
  go_enter Tryz.func28, Tryz.ntmps28
  go_upto_region 1 with fail
  have xw := Ext.refl w
  refine wp_name ?_
  intro V1 hV
  replace xw : Ext w V1 := by rw [hV]; exact Ext.alloc (xw)
  have b1 : Bx V1 w.heap.size #[.int .i64 h, .int .i64 m, .int .i64 s, .int .i64 n] 25 := by rw [hV]; exact Bx.new rfl
  clear hV
  have b1_c0 := b1.c 0 (v := .int .i64 h) rfl
  have b1_c1 := b1.c 1 (v := .int .i64 m) rfl
  have b1_c2 := b1.c 2 (v := .int .i64 s) rfl
  have b1_c3 := b1.c 3 (v := .int .i64 n) rfl
  have xr := xw
  go_wp2_with fail
  refine bodyPost_ret (v := .bool false) (by simp [results, Tryz.results28, go_sem]) rfl ⟨by rw [HD.out], xr⟩
set_option maxRecDepth 100000 in
set_option maxHeartbeats 3200000 in
theorem znanos (h m s n : Int) (w : World) (k : tOk h m s n) :
  Calls Tryz.prog 83 #[.agg #[.int .i64 h, .int .i64 m, .int .i64 s, .int .i64 n]] w (fun e w' => e = .returned (.int .i64 (tnan h m s n)) ∧ Ext w w') := by
 have HE := Lib.hid (show h * 3600000000000 + m * 60000000000 + s * 1000000000 + n = tnan h m s n by unfold tnan; omega)
 obtain ⟨⟨h0, h1⟩, ⟨m0, m1⟩, ⟨s0, s1⟩, ⟨n0, n1⟩⟩ := k
 go_enter Tryz.func83, Tryz.ntmps83
 go_upto_region 1 with fail
 have xw := Ext.refl w
 refine wp_name ?_
 intro V1 hV
 replace xw : Ext w V1 := by rw [hV]; exact Ext.alloc (xw)
 have b1 : Bx V1 w.heap.size #[.int .i64 h, .int .i64 m, .int .i64 s, .int .i64 n] 25 := by rw [hV]; exact Bx.new rfl
 clear hV
 have b1_c0 := b1.c 0 (v := .int .i64 h) rfl
 have b1_c1 := b1.c 1 (v := .int .i64 m) rfl
 have b1_c2 := b1.c 2 (v := .int .i64 s) rfl
 have b1_c3 := b1.c 3 (v := .int .i64 n) rfl
 have xr := xw
 go_wp2_with fail
 refine bodyPost_ret (v := .int .i64 (h * 3600000000000 + m * 60000000000 + s * 1000000000 + n)) (by simp [results, Tryz.results83, go_sem]) rfl ⟨by rw [HE.out], xr⟩
theorem of_h {n : Int} {k : Nat} (a : 0 ≤ n - 3600000000000 * k) (b : n - 3600000000000 * k < 3600000000000) : (k : Int) = tH n := by unfold tH; omega
theorem of_m {n : Int} {j : Nat} (a : 0 ≤ n - 3600000000000 * tH n - 60000000000 * j) (b : n - 3600000000000 * tH n - 60000000000 * j < 60000000000) : (j : Int) = tM n := by unfold tH at *; unfold tM; omega
theorem of_s {n : Int} {j : Nat} (a : 0 ≤ n - 3600000000000 * tH n - 60000000000 * tM n - 1000000000 * j) (b : n - 3600000000000 * tH n - 60000000000 * tM n - 1000000000 * j < 1000000000) (h0 : 0 ≤ n) : (j : Int) = tS n ∧ n - 3600000000000 * tH n - 60000000000 * tM n - 1000000000 * j = tN n := by unfold tH tM at *; unfold tS tN; omega
theorem tH_rest {n : Int} (h0 : 0 ≤ n) : 0 ≤ n - 3600000000000 * tH n ∧ n - 3600000000000 * tH n < 3600000000000 := by unfold tH; omega
theorem tM_rest {n : Int} (h0 : 0 ≤ n) : 0 ≤ n - 3600000000000 * tH n - 60000000000 * tM n ∧ n - 3600000000000 * tH n - 60000000000 * tM n < 60000000000 := by unfold tH tM; omega
set_option maxRecDepth 100000 in
set_option maxHeartbeats 3200000 in
theorem zof (n : Int) (w : World) (h0 : 0 ≤ n) (h1 : n < 86400000000000) :
  Calls Tryz.prog 78 #[.int .i64 n] w (fun e w' => e = .returned (.agg #[.int .i64 (tH n), .int .i64 (tM n), .int .i64 (tS n), .int .i64 (tN n)]) ∧ Ext w w') := by
 go_enter Tryz.func78, Tryz.ntmps78
 go_upto_region 1 with fail
 have xw := Ext.refl w
 refine wp_name ?_
 intro V1 hV
 replace xw : Ext w V1 := by rw [hV]; exact Ext.alloc (xw)
 have b2 : Bx V1 w.heap.size #[.int .i64 0, .int .i64 0, .int .i64 0, .int .i64 0] 25 := by rw [hV]; exact Bx.new rfl
 clear hV
 go_upto_region 2 with fail
 have o3 := b2.kind.lt
 have o4 := xw.size
 refine wp_name ?_
 intro V2 hV
 have b2N : Bx V2 w.heap.size #[.int .i64 0, .int .i64 0, .int .i64 0, .int .i64 0] 25 := by rw [hV]; exact (b2).alloc _
 replace xw : Ext w V2 := by rw [hV]; exact Ext.alloc (xw)
 replace b2 := b2N; clear b2N
 have b3 : Bx V2 V1.heap.size #[.int .i64 0, .int .i64 0, .int .i64 0, .int .i64 0] 25 := by rw [hV]; exact Bx.new rfl
 clear hV
 have p0 : 0 ≤ n := by exact h0
 have p1 : n < 86400000000000 := by exact h1
 go_loopw [0] (fun s0 wr => ∃ (j : Nat), s0 = .int .i64 (n - 3600000000000 * (j : Int)) ∧ 0 ≤ n - 3600000000000 * (j : Int) ∧ Bx wr w.heap.size #[.int .i64 0, .int .i64 0, .int .i64 0, .int .i64 0] 25 ∧ Bx wr V1.heap.size #[.int .i64 (j : Int), .int .i64 0, .int .i64 0, .int .i64 0] 25 ∧ Ext w wr) (fun s0 _ => (intOf s0).toNat)
 case atStart => exact ⟨0, by simp, by omega, b2, b3, xw⟩
 case round =>
  clear b2 b3 xw
  obtain ⟨j, rfl, hj, b2, b3, xw⟩ := hrel
  refine wp_name ?_
  intro Wr5 hV
  subst hV
  have j1 : (j : Int) ≤ 60 := by omega
  by_cases hlt : 3600000000000 ≤ n - 3600000000000 * (j : Int)
  ·have g1 : decide (3600000000000 ≤ n - 3600000000000 * (j : Int)) = true := decide_eq_true hlt
   obtain ⟨r, hr⟩ : ∃ r, n - 3600000000000 * (j : Int) = r := ⟨_, rfl⟩
   rw [hr] at hj hlt g1 ⊢
   have HR := Lib.hid hr
   have r1 : r < 86400000000000 := by omega
   clear hr
   go_upto_region 3 with fail
   go_upto_region 4 with fail
   have b3_c0 := b3.c 0 (v := .int .i64 (j : Int)) rfl
   have b3_f0 := b3.f 0
   have b2N := (b2).other (b := V1.heap.size) (by omega) 0 (.int .i64 ((j : Int) + 1))
   have b3N := (b3).setc 0 (.int .i64 ((j : Int) + 1)) (cs' := #[.int .i64 ((j : Int) + 1), .int .i64 0, .int .i64 0, .int .i64 0]) rfl
   have xN := Ext.set (xw) (k := V1.heap.size) (o := 0) (u := .int .i64 ((j : Int) + 1)) (by omega)
   go_wp2_with fail
   clear b3_c0 b3_f0
   go_roundw
   case rel => exact ⟨j + 1, by rw [show n - 3600000000000 * ((j + 1 : Nat) : Int) = r - 3600000000000 by have := HR.out; omega], by have := HR.out; omega, b2N, b3N, xN⟩
   case measure => simp [intOf]; omega
  ·have g1 : decide (3600000000000 ≤ n - 3600000000000 * (j : Int)) = false := decide_eq_false hlt
   have HJ := Lib.hid (of_h hj (by omega))
   rw [HJ.out] at b3 hj hlt g1 ⊢
   clear hj hlt HJ j1 p0 p1
   go_wp2_with fail
   have p0 : 0 ≤ n - 3600000000000 * tH n := by exact (tH_rest h0).1
   have p1 : n - 3600000000000 * tH n < 3600000000000 := by exact (tH_rest h0).2
   go_loopw [0] (fun s0 wr => ∃ (j : Nat), s0 = .int .i64 (n - 3600000000000 * tH n - 60000000000 * (j : Int)) ∧ 0 ≤ n - 3600000000000 * tH n - 60000000000 * (j : Int) ∧ Bx wr w.heap.size #[.int .i64 0, .int .i64 0, .int .i64 0, .int .i64 0] 25 ∧ Bx wr V1.heap.size #[.int .i64 (tH n), .int .i64 (j : Int), .int .i64 0, .int .i64 0] 25 ∧ Ext w wr) (fun s0 _ => (intOf s0).toNat)
   case atStart => exact ⟨0, by simp, by omega, b2, b3, xw⟩
   case round =>
    clear b2 b3 xw
    obtain ⟨j, rfl, hj, b2, b3, xw⟩ := hrel
    refine wp_name ?_
    intro Wr6 hV
    subst hV
    have j1 : (j : Int) ≤ 60 := by omega
    by_cases hlt : 60000000000 ≤ n - 3600000000000 * tH n - 60000000000 * (j : Int)
    ·have g1 : decide (60000000000 ≤ n - 3600000000000 * tH n - 60000000000 * (j : Int)) = true := decide_eq_true hlt
     obtain ⟨r, hr⟩ : ∃ r, n - 3600000000000 * tH n - 60000000000 * (j : Int) = r := ⟨_, rfl⟩
     rw [hr] at hj hlt g1 ⊢
     have HR := Lib.hid hr
     have r1 : r < 86400000000000 := by omega
     clear hr
     go_upto_region 6 with fail
     go_upto_region 7 with fail
     have b3_c1 := b3.c 1 (v := .int .i64 (j : Int)) rfl
     have b3_f1 := b3.f 1
     have b2N := (b2).other (b := V1.heap.size) (by omega) 1 (.int .i64 ((j : Int) + 1))
     have b3N := (b3).setc 1 (.int .i64 ((j : Int) + 1)) (cs' := #[.int .i64 (tH n), .int .i64 ((j : Int) + 1), .int .i64 0, .int .i64 0]) rfl
     have xN := Ext.set (xw) (k := V1.heap.size) (o := 1) (u := .int .i64 ((j : Int) + 1)) (by omega)
     go_wp2_with fail
     clear b3_c1 b3_f1
     go_roundw
     case rel => exact ⟨j + 1, by rw [show n - 3600000000000 * tH n - 60000000000 * ((j + 1 : Nat) : Int) = r - 60000000000 by have := HR.out; omega], by have := HR.out; omega, b2N, b3N, xN⟩
     case measure => simp [intOf]; omega
    ·have g1 : decide (60000000000 ≤ n - 3600000000000 * tH n - 60000000000 * (j : Int)) = false := decide_eq_false hlt
     have HJ := Lib.hid (of_m hj (by omega))
     rw [HJ.out] at b3 hj hlt g1 ⊢
     clear hj hlt HJ j1 p0 p1
     go_wp2_with fail
     have p0 : 0 ≤ n - 3600000000000 * tH n - 60000000000 * tM n := by exact (tM_rest h0).1
     have p1 : n - 3600000000000 * tH n - 60000000000 * tM n < 60000000000 := by exact (tM_rest h0).2
     go_loopw [0] (fun s0 wr => ∃ (j : Nat), s0 = .int .i64 (n - 3600000000000 * tH n - 60000000000 * tM n - 1000000000 * (j : Int)) ∧ 0 ≤ n - 3600000000000 * tH n - 60000000000 * tM n - 1000000000 * (j : Int) ∧ Bx wr w.heap.size #[.int .i64 0, .int .i64 0, .int .i64 0, .int .i64 0] 25 ∧ Bx wr V1.heap.size #[.int .i64 (tH n), .int .i64 (tM n), .int .i64 (j : Int), .int .i64 0] 25 ∧ Ext w wr) (fun s0 _ => (intOf s0).toNat)
     case atStart => exact ⟨0, by simp, by omega, b2, b3, xw⟩
     case round =>
      clear b2 b3 xw
      obtain ⟨j, rfl, hj, b2, b3, xw⟩ := hrel
      refine wp_name ?_
      intro Wr7 hV
      subst hV
      have j1 : (j : Int) ≤ 60 := by omega
      by_cases hlt : 1000000000 ≤ n - 3600000000000 * tH n - 60000000000 * tM n - 1000000000 * (j : Int)
      ·have g1 : decide (1000000000 ≤ n - 3600000000000 * tH n - 60000000000 * tM n - 1000000000 * (j : Int)) = true := decide_eq_true hlt
       obtain ⟨r, hr⟩ : ∃ r, n - 3600000000000 * tH n - 60000000000 * tM n - 1000000000 * (j : Int) = r := ⟨_, rfl⟩
       rw [hr] at hj hlt g1 ⊢
       have HR := Lib.hid hr
       have r1 : r < 86400000000000 := by omega
       clear hr
       go_upto_region 9 with fail
       go_upto_region 10 with fail
       have b3_c2 := b3.c 2 (v := .int .i64 (j : Int)) rfl
       have b3_f2 := b3.f 2
       have b2N := (b2).other (b := V1.heap.size) (by omega) 2 (.int .i64 ((j : Int) + 1))
       have b3N := (b3).setc 2 (.int .i64 ((j : Int) + 1)) (cs' := #[.int .i64 (tH n), .int .i64 (tM n), .int .i64 ((j : Int) + 1), .int .i64 0]) rfl
       have xN := Ext.set (xw) (k := V1.heap.size) (o := 2) (u := .int .i64 ((j : Int) + 1)) (by omega)
       go_wp2_with fail
       clear b3_c2 b3_f2
       go_roundw
       case rel => exact ⟨j + 1, by rw [show n - 3600000000000 * tH n - 60000000000 * tM n - 1000000000 * ((j + 1 : Nat) : Int) = r - 1000000000 by have := HR.out; omega], by have := HR.out; omega, b2N, b3N, xN⟩
       case measure => simp [intOf]; omega
      ·have g1 : decide (1000000000 ≤ n - 3600000000000 * tH n - 60000000000 * tM n - 1000000000 * (j : Int)) = false := decide_eq_false hlt
       have HJ := Lib.hid (of_s hj (by omega) h0)
       rw [HJ.out.1] at b3
       have HK := HJ.out.2
       rw [HK] at hj hlt g1 ⊢
       clear hj hlt HJ HK j1 p0 p1
       go_upto_region 11 with fail
       have b3_c3 := b3.c 3 (v := .int .i64 0) rfl
       have b3_f3 := b3.f 3
       go_upto_region 12 with fail
       clear b3_c3 b3_f3
       refine wp_name ?_
       intro V8 hV
       have b2N : Bx V8 w.heap.size #[.int .i64 0, .int .i64 0, .int .i64 0, .int .i64 0] 25 := by rw [hV]; exact (b2).other (b := V1.heap.size) (by omega) 3 (.int .i64 (tN n))
       have b3N : Bx V8 V1.heap.size #[.int .i64 (tH n), .int .i64 (tM n), .int .i64 (tS n), .int .i64 (tN n)] 25 := by rw [hV]; exact (b3).setc 3 (.int .i64 (tN n)) (cs' := #[.int .i64 (tH n), .int .i64 (tM n), .int .i64 (tS n), .int .i64 (tN n)]) rfl
       replace xw : Ext w V8 := by rw [hV]; exact Ext.set (xw) (k := V1.heap.size) (o := 3) (u := .int .i64 (tN n)) (by omega)
       replace b2 := b2N; clear b2N
       replace b3 := b3N; clear b3N
       clear hV
       have b3_c0 := b3.c 0 (v := .int .i64 (tH n)) rfl
       have b3_c1 := b3.c 1 (v := .int .i64 (tM n)) rfl
       have b3_c2 := b3.c 2 (v := .int .i64 (tS n)) rfl
       have b3_c3 := b3.c 3 (v := .int .i64 (tN n)) rfl
       have b2_c0 := b2.c 0 (v := .int .i64 0) rfl
       have b2_c1 := b2.c 1 (v := .int .i64 0) rfl
       have b2_c2 := b2.c 2 (v := .int .i64 0) rfl
       have b2_c3 := b2.c 3 (v := .int .i64 0) rfl
       have b2_f0 := b2.f 0
       have b2_f1 := b2.f 1
       have b2_f2 := b2.f 2
       have b2_f3 := b2.f 3
       have xr := Ext.set (Ext.set (Ext.set (Ext.set (xw) (k := w.heap.size) (o := 0) (u := .int .i64 (tH n)) (by omega)) (k := w.heap.size) (o := 1) (u := .int .i64 (tM n)) (by omega)) (k := w.heap.size) (o := 2) (u := .int .i64 (tS n)) (by omega)) (k := w.heap.size) (o := 3) (u := .int .i64 (tN n)) (by omega)
       go_wp2_with fail
       refine bodyPost_ret (v := .agg #[.int .i64 (tH n), .int .i64 (tM n), .int .i64 (tS n), .int .i64 (tN n)]) (by simp [results, Tryz.results78, go_sem, b2_c0, b2_c1, b2_c2, b2_c3]) rfl ⟨rfl, xr⟩
end Go.Proofs.YthoedmikfpbfnaaGreat
end
section
namespace Go.Proofs.YthoedmikfpbfnaaGreat
open Go Go.RowKit

set_option maxRecDepth 100000 in
set_option maxHeartbeats 3200000 in
theorem isnan (x : Int) (w : World) : Calls Tryz.prog 158 #[.int .i64 x] w (fun e w' => e = .returned (.bool false) ∧ w' = w) := by
 go_enter Tryz.func158, Tryz.ntmps158
 go_wp2
 go_ret
 exact ⟨rfl, rfl⟩
set_option maxRecDepth 100000 in
set_option maxHeartbeats 3200000 in
theorem ccompare (a b : Int) (w : World) : Calls Tryz.prog 115 #[.int .i64 a, .int .i64 b] w (fun e w' => e = .returned (.int .i64 (cmpI a b)) ∧ w' = w) := by
 unfold cmpI
 by_cases h : a < b
 ·rw [if_pos h]
  go_enter Tryz.func115, Tryz.ntmps115
  go_wp2_with (go_at_call 158; refine (isnan _ _).mono ?_; rintro e w' ⟨rfl, rfl⟩)
  go_ret
  exact ⟨rfl, rfl⟩
 ·rw [if_neg h]
  by_cases h1 : a = b
  ·subst h1
   rw [if_pos rfl]
   go_enter Tryz.func115, Tryz.ntmps115
   go_wp2_with (go_at_call 158; refine (isnan _ _).mono ?_; rintro e w' ⟨rfl, rfl⟩)
   go_ret
   exact ⟨rfl, rfl⟩
  ·rw [if_neg h1]
   have h2 : b < a := by omega
   clear h1
   go_enter Tryz.func115, Tryz.ntmps115
   go_wp2_with (go_at_call 158; refine (isnan _ _).mono ?_; rintro e w' ⟨rfl, rfl⟩)
   go_ret
   exact ⟨rfl, rfl⟩
theorem cmpI_congr {a b c d : Int} (h1 : a < b ↔ c < d) (h2 : a = b ↔ c = d) : cmpI a b = cmpI c d := by unfold cmpI; simp only [h1, h2]
end Go.Proofs.YthoedmikfpbfnaaGreat
end
section
namespace Go.Proofs.YthoedmikfpbfnaaGreat
open Go

instance (y m d : Int) : Decidable (dIn y m d) := by unfold dIn; infer_instance
instance (y m d : Int) : Decidable (dOk y m d) := by unfold dOk; infer_instance
def pOk (y mo d h m s n : Int) : Prop := dOk y mo d ∧ tOk h m s n ∧ ¬ (dnum y mo d = -100000001 ∧ tnan h m s n = 0)
instance (y mo d h m s n : Int) : Decidable (pOk y mo d h m s n) := by unfold pOk; infer_instance
def pnum (y mo d h m s n : Int) : Int := dnum y mo d * 86400000000000 + tnan h m s n
def pIn (x : Int) : Prop := -8640000086400000000000 < x ∧ x < 8640000086400000000000
instance (x : Int) : Decidable (pIn x) := by unfold pIn; infer_instance
theorem pOk_in {y mo d h m s n : Int} (k : pOk y mo d h m s n) : pIn (pnum y mo d h m s n) := by
 obtain ⟨⟨k1, k2⟩, k3, k4⟩ := k
 have := tnan_bd k3
 unfold pIn pnum; omega
def xd (x : Int) : Int := x.fdiv 86400000000000
def xt (x : Int) : Int := x.fmod 86400000000000
theorem x_split (x : Int) : xd x * 86400000000000 + xt x = x ∧ 0 ≤ xt x ∧ xt x < 86400000000000 := by
 unfold xd xt
 rw [Int.fdiv_eq_ediv_of_nonneg _ (by omega), Int.fmod_eq_emod_of_nonneg _ (by omega)]; omega
theorem pIn_split {x : Int} : pIn x ↔ (-100000001 ≤ xd x ∧ xd x ≤ 100000000) ∧ ¬ (xd x = -100000001 ∧ xt x = 0) := by
 have := x_split x
 unfold pIn; omega
theorem of_pOk {x : Int} (k : pIn x) : pOk (dY (xd x)) (dM (xd x)) (dD (xd x)) (tH (xt x)) (tM (xt x)) (tS (xt x)) (tN (xt x)) ∧ pnum (dY (xd x)) (dM (xd x)) (dD (xd x)) (tH (xt x)) (tM (xt x)) (tS (xt x)) (tN (xt x)) = x := by
 obtain ⟨k1, k2⟩ := pIn_split.1 k
 obtain ⟨a, b, c⟩ := x_split x
 obtain ⟨e, f⟩ := date_ok (xd x)
 have g := t_ok b c
 have i := tnan_t b
 refine ⟨⟨⟨e, by omega⟩, g, by rw [f, i]; exact k2⟩, ?_⟩
 unfold pnum; rw [f, i]; exact a
def cmp3 (y m d y' m' d' : Int) : Int := if y = y' then (if m = m' then cmpI d d' else cmpI m m') else cmpI y y'
theorem cmp3_num {y m d y' m' d' : Int} (h : dIn y m d) (h' : dIn y' m' d') : cmp3 y m d y' m' d' = cmpI (dnum y m d) (dnum y' m' d') := by
 have a := fun x => dnum_lt h h' x
 have b := fun x => dnum_lt h' h x
 unfold cmp3
 by_cases e1 : y = y'
 ·subst e1
  by_cases e2 : m = m'
  ·subst e2
   rw [if_pos rfl, if_pos rfl]
   refine cmpI_congr ?_ ?_ <;> unfold dnum <;> omega
  ·rw [if_pos rfl, if_neg e2]
   rcases Int.lt_or_lt_of_ne e2 with q | q
   ·have := a (.inr ⟨rfl, .inl q⟩); exact cmpI_congr (by omega) (by omega)
   ·have := b (.inr ⟨rfl, .inl q⟩); exact cmpI_congr (by omega) (by omega)
 ·rw [if_neg e1]
  rcases Int.lt_or_lt_of_ne e1 with q | q
  ·have := a (.inl q); exact cmpI_congr (by omega) (by omega)
  ·have := b (.inl q); exact cmpI_congr (by omega) (by omega)
theorem cmpI_0 {a b : Int} : cmpI a b = 0 ↔ a = b := by unfold cmpI; split <;> (try split) <;> omega
theorem cmpI_n {a b : Int} : cmpI a b = -1 ↔ a < b := by unfold cmpI; split <;> (try split) <;> omega
theorem cmpI_p {a b : Int} : cmpI a b = 1 ↔ b < a := by unfold cmpI; split <;> (try split) <;> omega
theorem cmp3_0 {y m d y' m' d' : Int} : cmp3 y m d y' m' d' = 0 ↔ y = y' ∧ m = m' ∧ d = d' := by
 unfold cmp3
 split
 ·split
  ·rw [cmpI_0]; omega
  ·rw [cmpI_0]; omega
 ·rw [cmpI_0]; omega
theorem tnan_0 {h m s n : Int} (k : tOk h m s n) : tnan h m s n = 0 ↔ h = 0 ∧ m = 0 ∧ s = 0 ∧ n = 0 := by
 unfold tOk at k; unfold tnan; omega
end Go.Proofs.YthoedmikfpbfnaaGreat
end
section
set_option maxRecDepth 100000
namespace Go.Proofs.YthoedmikfpbfnaaGreat
open Go Go.RowKit Go.Ev

abbrev nod : Value := .tuple #[.int .i64 0, .bool false]
section
variable (y m d : Int)
theorem cdays_yes (k : dOk y m d) : Fn 117 [] [dv y m d] (.tuple #[.int .i64 (dnum y m d), .bool true]) := by
 have hy := dOk_year k
 obtain ⟨⟨k1, k2, k3, k4⟩, k5, k6⟩ := k
 have k7 := (mlen_ge (y := y) k1 k2).2
 refine fn_of Tryz.func117 rfl fun ww => ?_
 refine qN 7 (decide (y < -271821)) ?_
 refine qN 11 (decide (y > 275760)) ?_
 refine qN 16 (decide (d < 1)) ?_
 refine qF ent145 (cmonth (y) (m)) ?_
 refine qN 26 (decide (d > mlen y m)) ?_
 refine qF ent159 (ccount (y) (m) (d) (by omega) (by omega) (by assumption) (by assumption) (by omega) (by omega)) ?_
 refine qN 31 (decide (dnum y m d < -100000001)) ?_
 refine qN 34 (decide (dnum y m d > 100000000)) ?_
 exact qR Tryz.func117
theorem cdays_no (k : ¬ dOk y m d) : Fn 117 [] [dv y m d] nod := by
 by_cases h1 : y < -271821
 ·refine fn_of Tryz.func117 rfl fun ww => ?_
  refine qY 7 (decide (y < -271821)) ?_
  exact qR Tryz.func117
 ·by_cases h2 : 275760 < y
  ·refine fn_of Tryz.func117 rfl fun ww => ?_
   refine qN 7 (decide (y < -271821)) ?_
   refine qY 11 (decide (y > 275760)) ?_
   exact qR Tryz.func117
  ·by_cases h3 : d < 1
   ·refine fn_of Tryz.func117 rfl fun ww => ?_
    refine qN 7 (decide (y < -271821)) ?_
    refine qN 11 (decide (y > 275760)) ?_
    refine qY 16 (decide (d < 1)) ?_
    exact qR Tryz.func117
   ·by_cases h4 : mlen y m < d
    ·refine fn_of Tryz.func117 rfl fun ww => ?_
     refine qN 7 (decide (y < -271821)) ?_
     refine qN 11 (decide (y > 275760)) ?_
     refine qN 16 (decide (d < 1)) ?_
     refine qF ent145 (cmonth (y) (m)) ?_
     refine qY 26 (decide (d > mlen y m)) ?_
     exact qR Tryz.func117
    ·have h5 : 1 ≤ m := by
      apply Classical.byContradiction; intro q; have := mlen_no (y := y) (m := m) (by omega); omega
     have h6 : m ≤ 12 := by
      apply Classical.byContradiction; intro q; have := mlen_no (y := y) (m := m) (by omega); omega
     have h7 := (mlen_ge (y := y) h5 h6).2
     have h8 : ¬ (-100000001 ≤ dnum y m d ∧ dnum y m d ≤ 100000000) := fun q => k ⟨⟨h5, h6, by omega, by omega⟩, q.1, q.2⟩
     by_cases h9 : dnum y m d < -100000001
     ·refine fn_of Tryz.func117 rfl fun ww => ?_
      refine qN 7 (decide (y < -271821)) ?_
      refine qN 11 (decide (y > 275760)) ?_
      refine qN 16 (decide (d < 1)) ?_
      refine qF ent145 (cmonth (y) (m)) ?_
      refine qN 26 (decide (d > mlen y m)) ?_
      refine qF ent159 (ccount (y) (m) (d) (by omega) (by omega) (by assumption) (by assumption) (by omega) (by omega)) ?_
      refine qY 31 (decide (dnum y m d < -100000001)) ?_
      exact qR Tryz.func117
     ·have h10 : 100000000 < dnum y m d := by omega
      refine fn_of Tryz.func117 rfl fun ww => ?_
      refine qN 7 (decide (y < -271821)) ?_
      refine qN 11 (decide (y > 275760)) ?_
      refine qN 16 (decide (d < 1)) ?_
      refine qF ent145 (cmonth (y) (m)) ?_
      refine qN 26 (decide (d > mlen y m)) ?_
      refine qF ent159 (ccount (y) (m) (d) (by omega) (by omega) (by assumption) (by assumption) (by omega) (by omega)) ?_
      refine qN 31 (decide (dnum y m d < -100000001)) ?_
      refine qY 34 (decide (dnum y m d > 100000000)) ?_
      exact qR Tryz.func117
theorem cright5_yes (k : dOk y m d) : Fn 161 [] [dv y m d] (.bool true) := by
 refine fn_of Tryz.func161 rfl fun ww => ?_
 refine qF ent117 (cdays_yes (y) (m) (d) (by assumption)) ?_
 exact qR Tryz.func161
theorem cright5_no (k : ¬ dOk y m d) : Fn 161 [] [dv y m d] (.bool false) := by
 refine fn_of Tryz.func161 rfl fun ww => ?_
 refine qF ent117 (cdays_no (y) (m) (d) (by assumption)) ?_
 exact qR Tryz.func161
theorem fcompare (a b : Int) : Fn 115 [] [.int .i64 a, .int .i64 b] (.int .i64 (cmpI a b)) := fn1 fun w => (ccompare a b w).mono fun e w' q => ⟨q.1, q.2 ▸ Ext.refl w⟩
end
section
variable (n : Int)
theorem cof5_no (k : n < -100000001 ∨ 100000000 < n) : Fn 119 [] [.int .i64 n] (.tuple #[dv 0 0 0, .bool false]) := by
 by_cases h : n < -100000001
 ·refine fn_of Tryz.func119 rfl fun ww => ?_
  refine qY 10 (decide (n < -100000001)) ?_
  exact qR Tryz.func119
 ·have h' : 100000000 < n := by omega
  refine fn_of Tryz.func119 rfl fun ww => ?_
  refine qN 10 (decide (n < -100000001)) ?_
  refine qY 13 (decide (n > 100000000)) ?_
  exact qR Tryz.func119
theorem cof5_yes (k0 : -100000001 ≤ n) (k1 : n ≤ 100000000) : Fn 119 [] [.int .i64 n] (.tuple #[dv (dY n) (dM n) (dD n), .bool true]) := by
 have hD := fD_in n
 obtain ⟨y0, y1, y2, y3⟩ := fY_in (Y := fY n) hD.1 hD.2 (by unfold fY fG; rfl)
 have t1 : (fD n).tdiv 1460 = fD n / 1460 := tdiv_nn hD.1
 have t2 : (fD n).tdiv 36524 = fD n / 36524 := tdiv_nn hD.1
 have t3 : (fD n).tdiv 146096 = fD n / 146096 := tdiv_nn hD.1
 have t4 : (fD n - fD n / 1460 + fD n / 36524 - fD n / 146096).tdiv 365 = fY n := by rw [tdiv_nn (by omega)]; rfl
 have t5 : (fY n).tdiv 4 = fY n / 4 := tdiv_nn (by omega)
 have t6 : (fY n).tdiv 100 = fY n / 100 := tdiv_nn (by omega)
 have r0 : 0 ≤ fR n := by unfold fR fS at *; omega
 obtain ⟨r1, r2⟩ := fR_in (R := fR n) y0 y1 rfl y3
 have hm := fM_in r0 r1
 have t7 : (5 * fR n + 2).tdiv 153 = fM n := by rw [tdiv_nn (by omega)]; rfl
 have m0 : 0 ≤ fM n ∧ fM n ≤ 11 := hm
 have t8 : (153 * fM n + 2).tdiv 5 = (153 * fM n + 2) / 5 := tdiv_nn (by omega)
 have hE : -700 ≤ fE n ∧ fE n ≤ 700 := by unfold fE; omega
 have hf : Fn 160 [] [.int .i64 (n + 719468), .int .i64 146097] (.tuple #[.int .i64 (fE n), .int .i64 (fD n)]) := cfloor146097 _ (by omega) (by omega)
 refine fn_of Tryz.func119 rfl fun ww => ?_
 refine qN 10 (decide (n < -100000001)) ?_
 refine qN 13 (decide (n > 100000000)) ?_
 refine qI 18 (n + 719468) ?_
 refine qF ent160 (hf) ?_
 refine st_i 24 IntKind.i64 ((Go.IntWalk.i64_in _ (by omega)).trans (t1)) (by kernel_rfl) ?_
 refine qI 25 (fD n - fD n / 1460) ?_
 refine st_i 27 IntKind.i64 ((Go.IntWalk.i64_in _ (by omega)).trans (t2)) (by kernel_rfl) ?_
 refine qI 28 (fD n - fD n / 1460 + fD n / 36524) ?_
 refine st_i 30 IntKind.i64 ((Go.IntWalk.i64_in _ (by omega)).trans (t3)) (by kernel_rfl) ?_
 refine qI 31 (fD n - fD n / 1460 + fD n / 36524 - fD n / 146096) ?_
 refine st_i 32 IntKind.i64 ((Go.IntWalk.i64_in _ (by omega)).trans (t4)) (by kernel_rfl) ?_
 refine qI 35 (365 * fY n) ?_
 refine st_i 37 IntKind.i64 ((Go.IntWalk.i64_in _ (by omega)).trans (t5)) (by kernel_rfl) ?_
 refine qI 38 (365 * fY n + fY n / 4) ?_
 refine st_i 40 IntKind.i64 ((Go.IntWalk.i64_in _ (by omega)).trans (t6)) (by kernel_rfl) ?_
 refine qI 41 (365 * fY n + fY n / 4 - fY n / 100) ?_
 refine st_i 42 IntKind.i64 ((Go.IntWalk.i64_in _ (by omega)).trans ((rfl : _ = fR n))) (by kernel_rfl) ?_
 refine qI 44 (5 * fR n) ?_
 refine qI 45 (5 * fR n + 2) ?_
 refine st_i 46 IntKind.i64 ((Go.IntWalk.i64_in _ (by omega)).trans (t7)) (by kernel_rfl) ?_
 refine qI 49 (400 * fE n) ?_
 refine qI 50 (fY n + 400 * fE n) ?_
 refine qI 52 (fM n + 3) ?_
 refine qI 55 (153 * fM n) ?_
 refine qI 56 (153 * fM n + 2) ?_
 refine st_i 57 IntKind.i64 ((Go.IntWalk.i64_in _ (by omega)).trans (t8)) (by kernel_rfl) ?_
 refine qI 58 (fR n - (153 * fM n + 2) / 5) ?_
 refine qI 59 (fR n - (153 * fM n + 2) / 5 + 1) ?_
 by_cases k63 : fM n + 3 > 12
 ·refine qV 63 (decide_eq_true k63) ?_
  refine qI 66 (fY n + 400 * fE n + 1) ?_
  refine qI 69 (fM n + 3 - 12) ?_
  exact st_retv Tryz.func119 (show Value.tuple #[Value.agg { toList := [vI64 (fY n + 400 * fE n + 1), vI64 (fM n + 3 - 12), vI64 (fR n - (153 * fM n + 2) / 5 + 1)] }, Value.bool true] = _ by (refine db_eq ?_ ?_ ?_ <;> simp only [dY, dM, dD] <;> split <;> omega)) (by kernel_rfl)
 ·refine qV 63 (decide_eq_false k63) ?_
  exact st_retv Tryz.func119 (show Value.tuple #[Value.agg { toList := [vI64 (fY n + 400 * fE n), vI64 (fM n + 3), vI64 (fR n - (153 * fM n + 2) / 5 + 1)] }, Value.bool true] = _ by (refine db_eq ?_ ?_ ?_ <;> simp only [dY, dM, dD] <;> split <;> omega)) (by kernel_rfl)
end
section
variable (y m d n : Int)
theorem caddd_yes (k : dOk y m d) (k0 : -100000001 ≤ dnum y m d + n) (k1 : dnum y m d + n ≤ 100000000) : Fn 99 [] [dv y m d, .int .i64 n] (.tuple #[dv (dY (dnum y m d + n)) (dM (dnum y m d + n)) (dD (dnum y m d + n)), .int .i64 0]) := by
 have k2 := k.2
 refine fn_of Tryz.func99 rfl fun ww => ?_
 refine qF ent117 (cdays_yes (y) (m) (d) (by assumption)) ?_
 refine qN 20 (decide (n < -4294967296)) ?_
 refine qN 23 (decide (n > 4294967296)) ?_
 refine qI 29 (dnum y m d + n) ?_
 refine qF ent119 (cof5_yes (dnum y m d + n) (by assumption) (by assumption)) ?_
 exact qR Tryz.func99
theorem caddd_no (k : dOk y m d) (kn : dnum y m d + n < -100000001 ∨ 100000000 < dnum y m d + n) : Fn 99 [] [dv y m d, .int .i64 n] (.tuple #[dv 0 0 0, .int .i64 4]) := by
 have k2 := k.2
 by_cases h1 : n < -4294967296
 ·refine fn_of Tryz.func99 rfl fun ww => ?_
  refine qF ent117 (cdays_yes (y) (m) (d) (by assumption)) ?_
  refine qY 20 (decide (n < -4294967296)) ?_
  exact qR Tryz.func99
 ·by_cases h2 : 4294967296 < n
  ·refine fn_of Tryz.func99 rfl fun ww => ?_
   refine qF ent117 (cdays_yes (y) (m) (d) (by assumption)) ?_
   refine qN 20 (decide (n < -4294967296)) ?_
   refine qY 23 (decide (n > 4294967296)) ?_
   exact qR Tryz.func99
  ·refine fn_of Tryz.func99 rfl fun ww => ?_
   refine qF ent117 (cdays_yes (y) (m) (d) (by assumption)) ?_
   refine qN 20 (decide (n < -4294967296)) ?_
   refine qN 23 (decide (n > 4294967296)) ?_
   refine qI 29 (dnum y m d + n) ?_
   refine qF ent119 (cof5_no (dnum y m d + n) (by assumption)) ?_
   exact qR Tryz.func99
variable (y' m' d' : Int)
theorem cor_1 (a b c : Int) (h : a ≠ 0) : FnR 114 [.int .i64 a, .int .i64 b, .int .i64 c] 3 3 (.int .i64 a) := by
 refine fnR_of Tryz.func114 rfl fun ww kk => ?_
 refine st_round (by kernel_rfl) ?_
 refine st_idx (fun w _ => indexAtS_run (T := 35) (kd := IntKind.i64) (i := 0) (n := 0) (off := 0) (k := kk) (len := 3) (cap := 3) (by kernel_rfl)) (by kernel_rfl) ?_
 refine st_ldrow 0 rfl (by kernel_rfl) ?_
 refine qV 14 (show (a != 0) = true by exact bne_iff_ne.2 (by omega)) ?_
 exact qR Tryz.func114
theorem cor_2 (a b c : Int) (h0 : a = 0) (h : b ≠ 0) : FnR 114 [.int .i64 a, .int .i64 b, .int .i64 c] 3 3 (.int .i64 b) := by
 subst h0
 refine fnR_of Tryz.func114 rfl fun ww kk => ?_
 refine st_round (by kernel_rfl) ?_
 refine st_idx (fun w _ => indexAtS_run (T := 35) (kd := IntKind.i64) (i := 0) (n := 0) (off := 0) (k := kk) (len := 3) (cap := 3) (by kernel_rfl)) (by kernel_rfl) ?_
 refine st_ldrow 0 rfl (by kernel_rfl) ?_
 refine qI 16 (0 + 1) ?_
 refine st_round (by kernel_rfl) ?_
 refine st_idx (fun w _ => indexAtS_run (T := 35) (kd := IntKind.i64) (i := 0 + 1) (n := 0) (off := 1) (k := kk) (len := 3) (cap := 3) (by kernel_rfl)) (by kernel_rfl) ?_
 refine st_ldrow 1 rfl (by kernel_rfl) ?_
 refine qV 14 (show (b != 0) = true by exact bne_iff_ne.2 (by omega)) ?_
 exact qR Tryz.func114
theorem cor_3 (a b c : Int) (h0 : a = 0) (h1 : b = 0) : FnR 114 [.int .i64 a, .int .i64 b, .int .i64 c] 3 3 (.int .i64 c) := by
 subst h0
 subst h1
 by_cases h : c = 0
 ·subst h
  refine fnR_of Tryz.func114 rfl fun ww kk => ?_
  refine st_round (by kernel_rfl) ?_
  refine st_idx (fun w _ => indexAtS_run (T := 35) (kd := IntKind.i64) (i := 0) (n := 0) (off := 0) (k := kk) (len := 3) (cap := 3) (by kernel_rfl)) (by kernel_rfl) ?_
  refine st_ldrow 0 rfl (by kernel_rfl) ?_
  refine qI 16 (0 + 1) ?_
  refine st_round (by kernel_rfl) ?_
  refine st_idx (fun w _ => indexAtS_run (T := 35) (kd := IntKind.i64) (i := 0 + 1) (n := 0) (off := 1) (k := kk) (len := 3) (cap := 3) (by kernel_rfl)) (by kernel_rfl) ?_
  refine st_ldrow 1 rfl (by kernel_rfl) ?_
  refine qI 16 (0 + 1 + 1) ?_
  refine st_round (by kernel_rfl) ?_
  refine st_idx (fun w _ => indexAtS_run (T := 35) (kd := IntKind.i64) (i := 0 + 1 + 1) (n := 0) (off := 2) (k := kk) (len := 3) (cap := 3) (by kernel_rfl)) (by kernel_rfl) ?_
  refine st_ldrow 2 rfl (by kernel_rfl) ?_
  refine qI 16 (0 + 1 + 1 + 1) ?_
  refine st_round (by kernel_rfl) ?_
  exact qR Tryz.func114
 ·refine fnR_of Tryz.func114 rfl fun ww kk => ?_
  refine st_round (by kernel_rfl) ?_
  refine st_idx (fun w _ => indexAtS_run (T := 35) (kd := IntKind.i64) (i := 0) (n := 0) (off := 0) (k := kk) (len := 3) (cap := 3) (by kernel_rfl)) (by kernel_rfl) ?_
  refine st_ldrow 0 rfl (by kernel_rfl) ?_
  refine qI 16 (0 + 1) ?_
  refine st_round (by kernel_rfl) ?_
  refine st_idx (fun w _ => indexAtS_run (T := 35) (kd := IntKind.i64) (i := 0 + 1) (n := 0) (off := 1) (k := kk) (len := 3) (cap := 3) (by kernel_rfl)) (by kernel_rfl) ?_
  refine st_ldrow 1 rfl (by kernel_rfl) ?_
  refine qI 16 (0 + 1 + 1) ?_
  refine st_round (by kernel_rfl) ?_
  refine st_idx (fun w _ => indexAtS_run (T := 35) (kd := IntKind.i64) (i := 0 + 1 + 1) (n := 0) (off := 2) (k := kk) (len := 3) (cap := 3) (by kernel_rfl)) (by kernel_rfl) ?_
  refine st_ldrow 2 rfl (by kernel_rfl) ?_
  refine qV 14 (show (c != 0) = true by exact bne_iff_ne.2 (by omega)) ?_
  exact qR Tryz.func114
theorem ccmp5 : Fn 56 [] [dv y m d, dv y' m' d'] (.int .i64 (cmp3 y m d y' m' d')) := by
 by_cases e1 : y = y'
 ·subst e1
  have z1 : cmpI y y = 0 := cmpI_0.2 rfl
  by_cases e2 : m = m'
  ·subst e2
   have z2 : cmpI m m = 0 := cmpI_0.2 rfl
   have h1 := cor_3 (cmpI y y) (cmpI m m) (cmpI d d') z1 z2
   have e : cmp3 y m d y m d' = cmpI d d' := by unfold cmp3; simp
   rw [e]
   refine fn_of Tryz.func56 rfl fun ww => ?_
   refine qF ent115 (fcompare (y) (y)) ?_
   refine qF ent115 (fcompare (m) (m)) ?_
   refine qF ent115 (fcompare (d) (d')) ?_
   refine st_row (b := 2) ent114 (h1) (by kernel_rfl) (by kernel_rfl) ?_
   exact qR Tryz.func56
  ·have z2 : cmpI m m' ≠ 0 := fun q => e2 (cmpI_0.1 q)
   have h1 := cor_2 (cmpI y y) (cmpI m m') (cmpI d d') z1 z2
   have e : cmp3 y m d y m' d' = cmpI m m' := by unfold cmp3; simp [e2]
   rw [e]
   refine fn_of Tryz.func56 rfl fun ww => ?_
   refine qF ent115 (fcompare (y) (y)) ?_
   refine qF ent115 (fcompare (m) (m')) ?_
   refine qF ent115 (fcompare (d) (d')) ?_
   refine st_row (b := 2) ent114 (h1) (by kernel_rfl) (by kernel_rfl) ?_
   exact qR Tryz.func56
 ·have z1 : cmpI y y' ≠ 0 := fun q => e1 (cmpI_0.1 q)
  have h1 := cor_1 (cmpI y y') (cmpI m m') (cmpI d d') z1
  have e : cmp3 y m d y' m' d' = cmpI y y' := by unfold cmp3; simp [e1]
  rw [e]
  refine fn_of Tryz.func56 rfl fun ww => ?_
  refine qF ent115 (fcompare (y) (y')) ?_
  refine qF ent115 (fcompare (m) (m')) ?_
  refine qF ent115 (fcompare (d) (d')) ?_
  refine st_row (b := 2) ent114 (h1) (by kernel_rfl) (by kernel_rfl) ?_
  exact qR Tryz.func56
end
end Go.Proofs.YthoedmikfpbfnaaGreat
end
section
set_option maxRecDepth 100000
namespace Go.Proofs.YthoedmikfpbfnaaGreat
open Go Go.RowKit Go.Ev

theorem zjan (y : Int) (h0 : -300000 ≤ y) (h1 : y ≤ 300000) : Fn 74 [] [.int .i64 y] (.int .i64 (jan y)) := by
 refine fn_of Tryz.func74 rfl fun ww => ?_
 refine qF ent127 (zdown400 (y) (by omega) (by omega)) ?_
 refine qI 9 (y / 400 * 146097) ?_
 refine st_i 10 IntKind.i64 (x := IntKind.i64.wrap (y / 400 * 146097 - 719528)) ((Go.IntWalk.i64_in (y / 400 * 146097 - 719528) (by omega)).trans ((show _ = jan (400 * (y / 400)) by rw [jan_cent] <;> omega))) (by kernel_rfl) ?_
 refine qI 12 (400 * (y / 400)) ?_
 refine qG [0,1,2,3,4,5,6,7,8,9,10,11,12,22] ?_
 refine st_loop (X := Int) (fun x => ([SV.val (vI64 y),svZ,SV.val (vI64 0),SV.val (vI64 (y / 400)),.val (.int .i64 (jan x)),.val (.int .i64 x),SV.val (vI64 y),SV.val (vI64 (y / 400)),SV.val (vI64 (y / 400)),SV.val (vI64 (y / 400 * 146097)),SV.val (vI64 (jan (400 * (y / 400)))),SV.val (vI64 (y / 400)),SV.val (vI64 (400 * (y / 400))),.any,.any,.any,.any,.any,.any,.any,.any,.any,svZ],[])) (fun _ => _) (fun k => 400 * (y / 400) ≤ k ∧ k ≤ y) (fun k => (y - k).toNat) (400 * (y / 400)) (by kernel_rfl) (by kernel_rfl) Sub.refl (by first | omega | (simp; omega) | assumption | simp_all) (fun y0 px0 back0 => ?_)
 (have q1 := jan_b (y := y0) (by omega) (by omega); have q2 := ylen_b y0)
 ·have _hh := True.intro
  by_cases k15 : y0 < y
  ·refine qV 15 (decide_eq_true k15) ?_
   refine qF ent128 (zyear (y0)) ?_
   refine st_i 21 IntKind.i64 (x := IntKind.i64.wrap (jan y0 + ylen y0)) ((Go.IntWalk.i64_in (jan y0 + ylen y0) (by omega)).trans ((jan_succ _).symm)) (by kernel_rfl) ?_
   refine qI 17 (y0 + 1) ?_
   refine qG [0,1,2,3,4,5,6,7,8,9,10,11,12,22] ?_
   exact qB back0 (y0 + 1) (by first | (obtain rfl : y0 = y := (by omega); rfl) | omega | (simp only []; omega) | (simp; omega) | assumption | simp_all)
  ·refine qV 15 (decide_eq_false k15) ?_
   exact st_retv Tryz.func74 (show vI64 (jan y0) = _ by (obtain rfl : y0 = y := (by omega); rfl)) (by kernel_rfl)
section
variable (y m d : Int)
theorem zdays_yes (k : dOk y m d) : Fn 27 [] [dv y m d] (.tuple #[.int .i64 (dnum y m d), .bool true]) := by
 have hy := dOk_year k
 obtain ⟨⟨k1, k2, k3, k4⟩, k5, k6⟩ := k
 have k7 := (mlen_ge (y := y) k1 k2).2
 have k8 := jan_b (y := y) (by omega) (by omega)
 refine fn_of Tryz.func27 rfl fun ww => ?_
 refine qN 8 (decide (y < -280000)) ?_
 refine qN 12 (decide (y > 280000)) ?_
 refine qN 17 (decide (m < 1)) ?_
 refine qN 22 (decide (m > 12)) ?_
 refine qN 27 (decide (d < 1)) ?_
 refine qF ent73 (zmonth (y) (m)) ?_
 refine qN 37 (decide (d > mlen y m)) ?_
 refine qF ent74 (zjan (y) (by omega) (by omega)) ?_
 refine st_i 4 IntKind.i64 (x := jan y) ((show jan y = jan y + mst y 1 by rw [mst_one] <;> omega)) (by kernel_rfl) ?_
 refine qG [0,1,2,3,4,5,6,7,8,9,10,11,12,13,14,15,16,17,18,19,20,21,22,23,24,25,26,27,28,29,30,31,32,33,34,35,36,37,38,39,40,41,54,55,56,57,58,59,60,61,62,63,64,65] ?_
 refine st_loop (X := Int) (fun x => ([SV.val (Value.agg #[vI64 y,vI64 m,vI64 d]),SV.ptr 0 0,SV.val (vI64 0),svF,.val (.int .i64 (jan y + mst y x)),.val (.int .i64 x),SV.ptr 0 0,SV.val (vI64 y),svF,svF,SV.ptr 0 0,SV.val (vI64 y),svF,svF,svF,SV.ptr 0 1,SV.val (vI64 m),svF,svF,svF,SV.ptr 0 1,SV.val (vI64 m),svF,svF,svF,SV.ptr 0 2,SV.val (vI64 d),svF,svF,svF,SV.ptr 0 2,SV.val (vI64 d),SV.ptr 0 0,SV.val (vI64 y),SV.ptr 0 1,SV.val (vI64 m),SV.val (vI64 (mlen y m)),svF,svF,SV.ptr 0 0,SV.val (vI64 y),SV.val (vI64 (jan y)),.any,.any,.any,.any,.any,.any,.any,.any,.any,.any,.any,.any,svZ,svZ,svZ,svZ,svZ,svZ,svZ,svZ,svZ,svZ,svZ,svZ],[⟨[SV.val (vI64 y),SV.val (vI64 m),SV.val (vI64 d)],23⟩])) (fun _ => _) (fun k => 1 ≤ k ∧ k ≤ m) (fun k => (m - k).toNat) (1) (by kernel_rfl) (by kernel_rfl) Sub.refl (by first | omega | (simp; omega) | assumption | simp_all) (fun y0 px0 back0 => ?_)
 (have q1 := mst_b (y := y) (m := y0) (by omega) (by omega); have q2 := mlen_ge (y := y) (m := y0) (by omega) (by omega))
 ·have _hh := True.intro
  by_cases k45 : y0 < m
  ·refine qV 45 (decide_eq_true k45) ?_
   refine qF ent73 (zmonth (y) (y0)) ?_
   refine st_i 53 IntKind.i64 (x := IntKind.i64.wrap (jan y + mst y y0 + mlen y y0)) ((Go.IntWalk.i64_in (jan y + mst y y0 + mlen y y0) (by omega)).trans ((show jan y + mst y y0 + mlen y y0 = jan y + mst y (y0 + 1) by rw [mst_succ (by omega) (by omega)] <;> omega))) (by kernel_rfl) ?_
   refine qI 47 (y0 + 1) ?_
   refine qG [0,1,2,3,4,5,6,7,8,9,10,11,12,13,14,15,16,17,18,19,20,21,22,23,24,25,26,27,28,29,30,31,32,33,34,35,36,37,38,39,40,41,54,55,56,57,58,59,60,61,62,63,64,65] ?_
   exact qB back0 (y0 + 1) (by first | omega | (simp only []; omega) | (simp; omega) | assumption | simp_all)
  ·refine qV 45 (decide_eq_false k45) ?_
   refine qI 57 (jan y + mst y y0 + d) ?_
   refine st_i 58 IntKind.i64 (x := IntKind.i64.wrap (jan y + mst y y0 + d - 1)) ((Go.IntWalk.i64_in (jan y + mst y y0 + d - 1) (by omega)).trans ((show jan y + mst y y0 + d - 1 = dnum y m d by obtain rfl : y0 = m := (by omega); rfl))) (by kernel_rfl) ?_
   refine qN 60 (decide (dnum y m d < -100000001)) ?_
   refine qN 63 (decide (dnum y m d > 100000000)) ?_
   exact qR Tryz.func27
theorem zdays_no (k : ¬ dOk y m d) : Fn 27 [] [dv y m d] nod := by
 by_cases h1 : y < -280000
 ·refine fn_of Tryz.func27 rfl fun ww => ?_
  refine qY 8 (decide (y < -280000)) ?_
  exact qR Tryz.func27
 ·by_cases h2 : 280000 < y
  ·refine fn_of Tryz.func27 rfl fun ww => ?_
   refine qN 8 (decide (y < -280000)) ?_
   refine qY 12 (decide (y > 280000)) ?_
   exact qR Tryz.func27
  ·by_cases h3 : m < 1
   ·refine fn_of Tryz.func27 rfl fun ww => ?_
    refine qN 8 (decide (y < -280000)) ?_
    refine qN 12 (decide (y > 280000)) ?_
    refine qY 17 (decide (m < 1)) ?_
    exact qR Tryz.func27
   ·by_cases h4 : 12 < m
    ·refine fn_of Tryz.func27 rfl fun ww => ?_
     refine qN 8 (decide (y < -280000)) ?_
     refine qN 12 (decide (y > 280000)) ?_
     refine qN 17 (decide (m < 1)) ?_
     refine qY 22 (decide (m > 12)) ?_
     exact qR Tryz.func27
    ·by_cases h5 : d < 1
     ·refine fn_of Tryz.func27 rfl fun ww => ?_
      refine qN 8 (decide (y < -280000)) ?_
      refine qN 12 (decide (y > 280000)) ?_
      refine qN 17 (decide (m < 1)) ?_
      refine qN 22 (decide (m > 12)) ?_
      refine qY 27 (decide (d < 1)) ?_
      exact qR Tryz.func27
     ·by_cases h6 : mlen y m < d
      ·refine fn_of Tryz.func27 rfl fun ww => ?_
       refine qN 8 (decide (y < -280000)) ?_
       refine qN 12 (decide (y > 280000)) ?_
       refine qN 17 (decide (m < 1)) ?_
       refine qN 22 (decide (m > 12)) ?_
       refine qN 27 (decide (d < 1)) ?_
       refine qF ent73 (zmonth (y) (m)) ?_
       refine qY 37 (decide (d > mlen y m)) ?_
       exact qR Tryz.func27
      ·have k7 := (mlen_ge (y := y) (m := m) (by omega) (by omega)).2
       have k8 := jan_b (y := y) (by omega) (by omega)
       have h8 : ¬ (-100000001 ≤ dnum y m d ∧ dnum y m d ≤ 100000000) := fun q => k ⟨⟨by omega, by omega, by omega, by omega⟩, q.1, q.2⟩
       have h9 : dnum y m d < -100000001 ∨ 100000000 < dnum y m d := by omega
       clear h8 k
       rcases h9 with h9 | h9
       ·refine fn_of Tryz.func27 rfl fun ww => ?_
        refine qN 8 (decide (y < -280000)) ?_
        refine qN 12 (decide (y > 280000)) ?_
        refine qN 17 (decide (m < 1)) ?_
        refine qN 22 (decide (m > 12)) ?_
        refine qN 27 (decide (d < 1)) ?_
        refine qF ent73 (zmonth (y) (m)) ?_
        refine qN 37 (decide (d > mlen y m)) ?_
        refine qF ent74 (zjan (y) (by omega) (by omega)) ?_
        refine st_i 4 IntKind.i64 (x := jan y) ((show jan y = jan y + mst y 1 by rw [mst_one] <;> omega)) (by kernel_rfl) ?_
        refine qG [0,1,2,3,4,5,6,7,8,9,10,11,12,13,14,15,16,17,18,19,20,21,22,23,24,25,26,27,28,29,30,31,32,33,34,35,36,37,38,39,40,41,54,55,56,57,58,59,60,61,62,63,64,65] ?_
        refine st_loop (X := Int) (fun x => ([SV.val (Value.agg #[vI64 y,vI64 m,vI64 d]),SV.ptr 0 0,SV.val (vI64 0),svF,.val (.int .i64 (jan y + mst y x)),.val (.int .i64 x),SV.ptr 0 0,SV.val (vI64 y),svF,svF,SV.ptr 0 0,SV.val (vI64 y),svF,svF,svF,SV.ptr 0 1,SV.val (vI64 m),svF,svF,svF,SV.ptr 0 1,SV.val (vI64 m),svF,svF,svF,SV.ptr 0 2,SV.val (vI64 d),svF,svF,svF,SV.ptr 0 2,SV.val (vI64 d),SV.ptr 0 0,SV.val (vI64 y),SV.ptr 0 1,SV.val (vI64 m),SV.val (vI64 (mlen y m)),svF,svF,SV.ptr 0 0,SV.val (vI64 y),SV.val (vI64 (jan y)),.any,.any,.any,.any,.any,.any,.any,.any,.any,.any,.any,.any,svZ,svZ,svZ,svZ,svZ,svZ,svZ,svZ,svZ,svZ,svZ,svZ],[⟨[SV.val (vI64 y),SV.val (vI64 m),SV.val (vI64 d)],23⟩])) (fun _ => _) (fun k => 1 ≤ k ∧ k ≤ m) (fun k => (m - k).toNat) (1) (by kernel_rfl) (by kernel_rfl) Sub.refl (by first | omega | (simp; omega) | assumption | simp_all) (fun y0 px0 back0 => ?_)
        (have q1 := mst_b (y := y) (m := y0) (by omega) (by omega); have q2 := mlen_ge (y := y) (m := y0) (by omega) (by omega))
        ·have _hh := True.intro
         by_cases k45 : y0 < m
         ·refine qV 45 (decide_eq_true k45) ?_
          refine qF ent73 (zmonth (y) (y0)) ?_
          refine st_i 53 IntKind.i64 (x := IntKind.i64.wrap (jan y + mst y y0 + mlen y y0)) ((Go.IntWalk.i64_in (jan y + mst y y0 + mlen y y0) (by omega)).trans ((show jan y + mst y y0 + mlen y y0 = jan y + mst y (y0 + 1) by rw [mst_succ (by omega) (by omega)] <;> omega))) (by kernel_rfl) ?_
          refine qI 47 (y0 + 1) ?_
          refine qG [0,1,2,3,4,5,6,7,8,9,10,11,12,13,14,15,16,17,18,19,20,21,22,23,24,25,26,27,28,29,30,31,32,33,34,35,36,37,38,39,40,41,54,55,56,57,58,59,60,61,62,63,64,65] ?_
          exact qB back0 (y0 + 1) (by first | omega | (simp only []; omega) | (simp; omega) | assumption | simp_all)
         ·refine qV 45 (decide_eq_false k45) ?_
          refine qI 57 (jan y + mst y y0 + d) ?_
          refine st_i 58 IntKind.i64 (x := IntKind.i64.wrap (jan y + mst y y0 + d - 1)) ((Go.IntWalk.i64_in (jan y + mst y y0 + d - 1) (by omega)).trans ((show jan y + mst y y0 + d - 1 = dnum y m d by obtain rfl : y0 = m := (by omega); rfl))) (by kernel_rfl) ?_
          refine qY 60 (decide (dnum y m d < -100000001)) ?_
          exact qR Tryz.func27
       ·refine fn_of Tryz.func27 rfl fun ww => ?_
        refine qN 8 (decide (y < -280000)) ?_
        refine qN 12 (decide (y > 280000)) ?_
        refine qN 17 (decide (m < 1)) ?_
        refine qN 22 (decide (m > 12)) ?_
        refine qN 27 (decide (d < 1)) ?_
        refine qF ent73 (zmonth (y) (m)) ?_
        refine qN 37 (decide (d > mlen y m)) ?_
        refine qF ent74 (zjan (y) (by omega) (by omega)) ?_
        refine st_i 4 IntKind.i64 (x := jan y) ((show jan y = jan y + mst y 1 by rw [mst_one] <;> omega)) (by kernel_rfl) ?_
        refine qG [0,1,2,3,4,5,6,7,8,9,10,11,12,13,14,15,16,17,18,19,20,21,22,23,24,25,26,27,28,29,30,31,32,33,34,35,36,37,38,39,40,41,54,55,56,57,58,59,60,61,62,63,64,65] ?_
        refine st_loop (X := Int) (fun x => ([SV.val (Value.agg #[vI64 y,vI64 m,vI64 d]),SV.ptr 0 0,SV.val (vI64 0),svF,.val (.int .i64 (jan y + mst y x)),.val (.int .i64 x),SV.ptr 0 0,SV.val (vI64 y),svF,svF,SV.ptr 0 0,SV.val (vI64 y),svF,svF,svF,SV.ptr 0 1,SV.val (vI64 m),svF,svF,svF,SV.ptr 0 1,SV.val (vI64 m),svF,svF,svF,SV.ptr 0 2,SV.val (vI64 d),svF,svF,svF,SV.ptr 0 2,SV.val (vI64 d),SV.ptr 0 0,SV.val (vI64 y),SV.ptr 0 1,SV.val (vI64 m),SV.val (vI64 (mlen y m)),svF,svF,SV.ptr 0 0,SV.val (vI64 y),SV.val (vI64 (jan y)),.any,.any,.any,.any,.any,.any,.any,.any,.any,.any,.any,.any,svZ,svZ,svZ,svZ,svZ,svZ,svZ,svZ,svZ,svZ,svZ,svZ],[⟨[SV.val (vI64 y),SV.val (vI64 m),SV.val (vI64 d)],23⟩])) (fun _ => _) (fun k => 1 ≤ k ∧ k ≤ m) (fun k => (m - k).toNat) (1) (by kernel_rfl) (by kernel_rfl) Sub.refl (by first | omega | (simp; omega) | assumption | simp_all) (fun y0 px0 back0 => ?_)
        (have q1 := mst_b (y := y) (m := y0) (by omega) (by omega); have q2 := mlen_ge (y := y) (m := y0) (by omega) (by omega))
        ·have _hh := True.intro
         by_cases k45 : y0 < m
         ·refine qV 45 (decide_eq_true k45) ?_
          refine qF ent73 (zmonth (y) (y0)) ?_
          refine st_i 53 IntKind.i64 (x := IntKind.i64.wrap (jan y + mst y y0 + mlen y y0)) ((Go.IntWalk.i64_in (jan y + mst y y0 + mlen y y0) (by omega)).trans ((show jan y + mst y y0 + mlen y y0 = jan y + mst y (y0 + 1) by rw [mst_succ (by omega) (by omega)] <;> omega))) (by kernel_rfl) ?_
          refine qI 47 (y0 + 1) ?_
          refine qG [0,1,2,3,4,5,6,7,8,9,10,11,12,13,14,15,16,17,18,19,20,21,22,23,24,25,26,27,28,29,30,31,32,33,34,35,36,37,38,39,40,41,54,55,56,57,58,59,60,61,62,63,64,65] ?_
          exact qB back0 (y0 + 1) (by first | omega | (simp only []; omega) | (simp; omega) | assumption | simp_all)
         ·refine qV 45 (decide_eq_false k45) ?_
          refine qI 57 (jan y + mst y y0 + d) ?_
          refine st_i 58 IntKind.i64 (x := IntKind.i64.wrap (jan y + mst y y0 + d - 1)) ((Go.IntWalk.i64_in (jan y + mst y y0 + d - 1) (by omega)).trans ((show jan y + mst y y0 + d - 1 = dnum y m d by obtain rfl : y0 = m := (by omega); rfl))) (by kernel_rfl) ?_
          refine qN 60 (decide (dnum y m d < -100000001)) ?_
          refine qY 63 (decide (dnum y m d > 100000000)) ?_
          exact qR Tryz.func27
theorem zright5_yes (k : dOk y m d) : Fn 162 [] [dv y m d] (.bool true) := by
 refine fn_of Tryz.func162 rfl fun ww => ?_
 refine qF ent27 (zdays_yes (y) (m) (d) (by assumption)) ?_
 exact qR Tryz.func162
theorem zright5_no (k : ¬ dOk y m d) : Fn 162 [] [dv y m d] (.bool false) := by
 refine fn_of Tryz.func162 rfl fun ww => ?_
 refine qF ent27 (zdays_no (y) (m) (d) (by assumption)) ?_
 exact qR Tryz.func162
end
section
variable (n : Int)
theorem of_end {n Y M l : Int} (h1 : 1 ≤ M) (h2 : M ≤ 12) (h : l = n - jan Y - mst Y M) (h3 : 0 ≤ l) (h4 : l < mlen Y M) : Value.tuple #[dv Y M (l + 1), .bool true] = .tuple #[dv (dY n) (dM n) (dD n), .bool true] := by
 obtain ⟨a, b, c⟩ := date_uniq (n := n) (y := Y) (m := M) (d := l + 1) ⟨h1, h2, by omega, by omega⟩ (by unfold dnum; omega)
 rw [← a, ← b, ← c]
theorem zof5_no (k : n < -100000001 ∨ 100000000 < n) : Fn 77 [] [.int .i64 n] (.tuple #[dv 0 0 0, .bool false]) := by
 by_cases h : n < -100000001
 ·refine fn_of Tryz.func77 rfl fun ww => ?_
  refine qY 9 (decide (n < -100000001)) ?_
  exact qR Tryz.func77
 ·have h' : 100000000 < n := by omega
  refine fn_of Tryz.func77 rfl fun ww => ?_
  refine qN 9 (decide (n < -100000001)) ?_
  refine qY 12 (decide (n > 100000000)) ?_
  exact qR Tryz.func77
theorem zof5_yes (k0 : -100000001 ≤ n) (k1 : n ≤ 100000000) : Fn 77 [] [.int .i64 n] (.tuple #[dv (dY n) (dM n) (dD n), .bool true]) := by
 have j0 := jan_cent ((n + 719528) / 146097)
 refine fn_of Tryz.func77 rfl fun ww => ?_
 refine qN 9 (decide (n < -100000001)) ?_
 refine qN 12 (decide (n > 100000000)) ?_
 refine qI 16 (n + 719528) ?_
 refine qF ent127 (zdown146097 (n + 719528) (by omega) (by omega)) ?_
 refine qI 19 (400 * ((n + 719528) / 146097)) ?_
 refine qI 21 (n + 719528) ?_
 refine qI 23 ((n + 719528) / 146097 * 146097) ?_
 refine st_i 24 IntKind.i64 (x := IntKind.i64.wrap (n + 719528 - (n + 719528) / 146097 * 146097)) ((Go.IntWalk.i64_in (n + 719528 - (n + 719528) / 146097 * 146097) (by omega)).trans ((show _ = n - jan (400 * ((n + 719528) / 146097)) by rw [jan_cent] <;> omega))) (by kernel_rfl) ?_
 refine qG [0,1,2,3,4,5,6,7,8,9,10,11,12,13,14,15,16,17,18,19,20,21,22,23,24,35,36,37,38,39,40,41,42,43,44,45,46,47,48,49,50,51] ?_
 refine st_loop (X := Int) (fun x => ([SV.val (vI64 n),svZ,SV.ptr 0 0,svF,SV.val (vI64 ((n + 719528) / 146097)),.val (.int .i64 x),.val (.int .i64 (n - jan x)),svZ,SV.val (vI64 n),svF,svF,SV.val (vI64 n),svF,svF,svZ,SV.val (vI64 n),SV.val (vI64 (n + 719528)),SV.val (vI64 ((n + 719528) / 146097)),SV.val (vI64 ((n + 719528) / 146097)),SV.val (vI64 (400 * ((n + 719528) / 146097))),SV.val (vI64 n),SV.val (vI64 (n + 719528)),SV.val (vI64 ((n + 719528) / 146097)),SV.val (vI64 ((n + 719528) / 146097 * 146097)),SV.val (vI64 (n - jan (400 * ((n + 719528) / 146097)))),.any,.any,.any,.any,.any,.any,.any,.any,.any,.any,svZ,svZ,svZ,svZ,svZ,svZ,svZ,svZ,svZ,svZ,svZ,svZ,svZ,svZ,svZ,svZ,svZ],[⟨[SV.val (vI64 0),SV.val (vI64 0),SV.val (vI64 0)],23⟩])) (fun _ => _) (fun k => 400 * ((n + 719528) / 146097) ≤ k ∧ k ≤ 300000 ∧ jan k ≤ n) (fun k => (n - jan k).toNat) (400 * ((n + 719528) / 146097)) (by kernel_rfl) (by kernel_rfl) Sub.refl (by first | omega | (simp; omega) | assumption | simp_all) (fun y0 px0 back0 => ?_)
 (have q1 := jan_succ y0; have q2 := ylen_b y0; have q3 := jan_b (y := y0) (by omega) (by omega); have q4 : jan y0 ≤ n → y0 ≤ 280000 := (by (unfold jan; omega)); have q5 := mst_one y0)
 ·have _hh := True.intro
  refine qF ent128 (zyear (y0)) ?_
  by_cases k28 : n - jan y0 ≥ ylen y0
  ·refine qV 28 (decide_eq_true k28) ?_
   refine qF ent128 (zyear (y0)) ?_
   refine st_i 32 IntKind.i64 (x := IntKind.i64.wrap (n - jan y0 - ylen y0)) ((Go.IntWalk.i64_in (n - jan y0 - ylen y0) (by omega)).trans ((show n - jan y0 - ylen y0 = n - jan (y0 + 1) by rw [jan_succ] <;> omega))) (by kernel_rfl) ?_
   refine qI 34 (y0 + 1) ?_
   refine qG [0,1,2,3,4,5,6,7,8,9,10,11,12,13,14,15,16,17,18,19,20,21,22,23,24,35,36,37,38,39,40,41,42,43,44,45,46,47,48,49,50,51] ?_
   exact qB back0 (y0 + 1) (by first | (exact of_end (by omega) (by omega) (by omega) (by omega) (by omega)) | omega | (simp only []; omega) | (simp; omega) | assumption | simp_all)
  ·refine qV 28 (decide_eq_false k28) ?_
   refine qG [0,1,2,3,4,5,6,7,8,9,10,11,12,13,14,15,16,17,18,19,20,21,22,23,24,25,26,27,28,29,30,31,32,33,34,47,48,49,50,51] ?_
   refine st_loop (X := Int × Int) (fun x => ([SV.val (vI64 n),svZ,SV.ptr 0 0,svF,SV.val (vI64 ((n + 719528) / 146097)),SV.val (vI64 y0),.val (.int .i64 x.2),.val (.int .i64 x.1),SV.val (vI64 n),svF,svF,SV.val (vI64 n),svF,svF,svZ,SV.val (vI64 n),SV.val (vI64 (n + 719528)),SV.val (vI64 ((n + 719528) / 146097)),SV.val (vI64 ((n + 719528) / 146097)),SV.val (vI64 (400 * ((n + 719528) / 146097))),SV.val (vI64 n),SV.val (vI64 (n + 719528)),SV.val (vI64 ((n + 719528) / 146097)),SV.val (vI64 ((n + 719528) / 146097 * 146097)),SV.val (vI64 (n - jan (400 * ((n + 719528) / 146097)))),SV.val (vI64 (n - jan y0)),SV.val (vI64 y0),SV.val (vI64 (ylen y0)),svF,SV.any,SV.any,SV.any,SV.any,SV.any,SV.any,.any,.any,.any,.any,.any,.any,.any,.any,.any,.any,.any,.any,svZ,svZ,svZ,svZ,svZ],[⟨[SV.val (vI64 0),SV.val (vI64 0),SV.val (vI64 0)],23⟩])) (fun _ => _) (fun k => 1 ≤ k.1 ∧ k.1 ≤ 12 ∧ k.2 = n - jan y0 - mst y0 k.1 ∧ 0 ≤ k.2) (fun k => k.2.toNat) ((1,n - jan y0)) (by kernel_rfl) (by kernel_rfl) Sub.refl (by first | omega | (simp; omega) | assumption | simp_all) (fun x px1 back1 => ?_)
   rcases x with ⟨y1_0, y1_1⟩
   simp only at px1
   (have r1 := mst_succ (y := y0) (m := y1_0) (by omega) (by omega); have r2 := mlen_ge (y := y0) (m := y1_0) (by omega) (by omega); have r3 := mst_b (y := y0) (m := y1_0) (by omega) (by omega); have r4 : y1_0 = 12 → mst y0 (y1_0 + 1) = ylen y0 := (by (intro e; subst e; exact mst_end y0)))
   ·have _hh := True.intro
    refine qF ent73 (zmonth (y0) (y1_0)) ?_
    by_cases k39 : y1_1 ≥ mlen y0 y1_0
    ·refine qV 39 (decide_eq_true k39) ?_
     refine qF ent73 (zmonth (y0) (y1_0)) ?_
     refine qI 44 (y1_1 - mlen y0 y1_0) ?_
     refine qI 46 (y1_0 + 1) ?_
     refine qG [0,1,2,3,4,5,6,7,8,9,10,11,12,13,14,15,16,17,18,19,20,21,22,23,24,25,26,27,28,29,30,31,32,33,34,47,48,49,50,51] ?_
     exact qB back1 ((y1_0 + 1, y1_1 - mlen y0 y1_0)) (by first | (exact of_end (by omega) (by omega) (by omega) (by omega) (by omega)) | omega | (simp only []; omega) | (simp; omega) | assumption | simp_all)
    ·refine qV 39 (decide_eq_false k39) ?_
     refine qI 50 (y1_1 + 1) ?_
     exact st_retv Tryz.func77 (show Value.tuple #[Value.agg { toList := [vI64 y0, vI64 y1_0, vI64 (y1_1 + 1)] }, Value.bool true] = _ by (exact of_end (by omega) (by omega) (by omega) (by omega) (by omega))) (by kernel_rfl)
end
section
variable (y m d n : Int)
theorem zaddd_yes (k : dOk y m d) (k0 : -100000001 ≤ dnum y m d + n) (k1 : dnum y m d + n ≤ 100000000) : Fn 112 [] [dv y m d, .int .i64 n] (.tuple #[dv (dY (dnum y m d + n)) (dM (dnum y m d + n)) (dD (dnum y m d + n)), .int .i64 0]) := by
 have k2 := k.2
 refine fn_of Tryz.func112 rfl fun ww => ?_
 refine qF ent27 (zdays_yes (y) (m) (d) (by assumption)) ?_
 refine qN 19 (decide (n < -300000000)) ?_
 refine qN 22 (decide (n > 300000000)) ?_
 refine qI 28 (dnum y m d + n) ?_
 refine qF ent77 (zof5_yes (dnum y m d + n) (by assumption) (by assumption)) ?_
 exact qR Tryz.func112
theorem zaddd_no (k : dOk y m d) (kn : dnum y m d + n < -100000001 ∨ 100000000 < dnum y m d + n) : Fn 112 [] [dv y m d, .int .i64 n] (.tuple #[dv 0 0 0, .int .i64 4]) := by
 have k2 := k.2
 by_cases h1 : n < -300000000
 ·refine fn_of Tryz.func112 rfl fun ww => ?_
  refine qF ent27 (zdays_yes (y) (m) (d) (by assumption)) ?_
  refine qY 19 (decide (n < -300000000)) ?_
  exact qR Tryz.func112
 ·by_cases h2 : 300000000 < n
  ·refine fn_of Tryz.func112 rfl fun ww => ?_
   refine qF ent27 (zdays_yes (y) (m) (d) (by assumption)) ?_
   refine qN 19 (decide (n < -300000000)) ?_
   refine qY 22 (decide (n > 300000000)) ?_
   exact qR Tryz.func112
  ·refine fn_of Tryz.func112 rfl fun ww => ?_
   refine qF ent27 (zdays_yes (y) (m) (d) (by assumption)) ?_
   refine qN 19 (decide (n < -300000000)) ?_
   refine qN 22 (decide (n > 300000000)) ?_
   refine qI 28 (dnum y m d + n) ?_
   refine qF ent77 (zof5_no (dnum y m d + n) (by assumption)) ?_
   exact qR Tryz.func112
variable (y' m' d' : Int)
theorem zcmp5 : Fn 111 [] [dv y m d, dv y' m' d'] (.int .i64 (cmp3 y m d y' m' d')) := by
 by_cases e1 : y = y'
 ·subst e1
  by_cases e2 : m = m'
  ·subst e2
   by_cases e3 : d = d'
   ·subst e3
    rw [show cmp3 y m d y m d = 0 from cmp3_0.2 ⟨rfl, rfl, rfl⟩]
    refine fn_of Tryz.func111 rfl fun ww => ?_
    refine qV 7 (show (y == y && (m == m && (d == d && true))) = true by simp_all) ?_
    exact qR Tryz.func111
   ·have q : (y == y && (m == m && (d == d' && true))) = false := by simp [e3]
    have e : cmp3 y m d y m d' = cmpI d d' := by unfold cmp3; simp
    rw [e]
    by_cases l : d < d'
    ·rw [cmpI_lt l]
     refine fn_of Tryz.func111 rfl fun ww => ?_
     refine qV 7 (show (y == y && (m == m && (d == d' && true))) = false by assumption) ?_
     refine qN 12 (decide (y < y)) ?_
     refine qY 18 (y == y) ?_
     refine qN 24 (decide (m < m)) ?_
     refine qY 30 (m == m) ?_
     refine qY 36 (decide (d < d')) ?_
     exact qR Tryz.func111
    ·rw [cmpI_gt (by omega)]
     refine fn_of Tryz.func111 rfl fun ww => ?_
     refine qV 7 (show (y == y && (m == m && (d == d' && true))) = false by assumption) ?_
     refine qN 12 (decide (y < y)) ?_
     refine qY 18 (y == y) ?_
     refine qN 24 (decide (m < m)) ?_
     refine qY 30 (m == m) ?_
     refine qN 36 (decide (d < d')) ?_
     exact qR Tryz.func111
  ·have q : (y == y && (m == m' && (d == d' && true))) = false := by simp [e2]
   have e : cmp3 y m d y m' d' = cmpI m m' := by unfold cmp3; simp [e2]
   rw [e]
   by_cases l : m < m'
   ·rw [cmpI_lt l]
    refine fn_of Tryz.func111 rfl fun ww => ?_
    refine qV 7 (show (y == y && (m == m' && (d == d' && true))) = false by assumption) ?_
    refine qN 12 (decide (y < y)) ?_
    refine qY 18 (y == y) ?_
    refine qY 24 (decide (m < m')) ?_
    exact qR Tryz.func111
   ·rw [cmpI_gt (by omega)]
    refine fn_of Tryz.func111 rfl fun ww => ?_
    refine qV 7 (show (y == y && (m == m' && (d == d' && true))) = false by assumption) ?_
    refine qN 12 (decide (y < y)) ?_
    refine qY 18 (y == y) ?_
    refine qN 24 (decide (m < m')) ?_
    refine qN 30 (m == m') ?_
    exact qR Tryz.func111
 ·have q : (y == y' && (m == m' && (d == d' && true))) = false := by simp [e1]
  have e : cmp3 y m d y' m' d' = cmpI y y' := by unfold cmp3; simp [e1]
  rw [e]
  by_cases l : y < y'
  ·rw [cmpI_lt l]
   refine fn_of Tryz.func111 rfl fun ww => ?_
   refine qV 7 (show (y == y' && (m == m' && (d == d' && true))) = false by assumption) ?_
   refine qY 12 (decide (y < y')) ?_
   exact qR Tryz.func111
  ·rw [cmpI_gt (by omega)]
   refine fn_of Tryz.func111 rfl fun ww => ?_
   refine qV 7 (show (y == y' && (m == m' && (d == d' && true))) = false by assumption) ?_
   refine qN 12 (decide (y < y')) ?_
   refine qN 18 (y == y') ?_
   exact qR Tryz.func111
end
end Go.Proofs.YthoedmikfpbfnaaGreat
end
section
namespace Go.Ev
open Go Go.RowKit

def appAt (c : Cf) : Option (SV × SV × TypeId) := match opAt c with
 | some o => match o.op with
  | .call k => match k.callee with
   | .builtin .append => match k.args.toList with
    | [x, y] => match k.argTypes.toList with
     | [t, t'] => match Nat.beq t t' with
      | true => some (opS c.fr x, opS c.fr y, t)
      | false => none
     | _ => none
    | _ => none
   | _ => none
  | _ => none
 | none => none
theorem appAt_op {c : Cf} {s u : SV} {t : TypeId} (h : appAt c = some (s, u, t)) : ∃ o x y, opAt c = some o ∧ o.op = Op.call { callee := Callee.builtin Builtin.append, args := #[x, y], argTypes := #[t, t] } ∧ opS c.fr x = s ∧ opS c.fr y = u := by
 unfold appAt at h
 split at h
 ·rename_i o ho
  split at h
  ·rename_i k hk
   obtain ⟨cal, ags, ts⟩ := k
   simp only at h
   split at h
   ·split at h
    ·rename_i x y hxy
     split at h
     ·rename_i t1 t2 htt
      split at h
      ·rename_i hb
       simp only [Option.some.injEq, Prod.mk.injEq] at h
       obtain ⟨rfl, rfl, rfl⟩ := h
       have e1 : ags = #[x, y] := by cases ags; simp_all
       have e3 : t1 = t2 := Nat.eq_of_beq_eq_true hb
       subst e3
       have e2 : ts = #[t1, t1] := by cases ts; simp_all
       subst e1 e2
       exact ⟨o, x, y, ho, hk, rfl, rfl⟩
      ·cases h
     ·cases h
    ·cases h
   ·cases h
  ·cases h
 ·cases h
def resumeX (c : Cf) (b : Nat) (B : Bk) (n m : Nat) : Cf := ⟨c.todo, match c.rg with
 | some (.plain ops (_ :: l)) => some (.plain ops l)
 | rg => resRg rg, putS c.fr (resDst c.rg) (.sl b 0 n m), c.bl.set b B⟩
section
variable {C : Cx} {G : World → Prop}
theorem cell_at {P : Program} {r : Nat → Nat} {N : Nat → Prop} {w : World} {k : Nat} {vs : List Value} {T : TypeId} (h : BkIs r N w k ⟨vs.map .val, T⟩) : w.heap[k]? = some (.cells vs.toArray T (0, 0)) := by
 obtain ⟨cs, h1, h2⟩ := h
 obtain rfl := cellsOk_eq h2
 exact h1
theorem setCells_row {g : Nat} {t : TypeId} {fr : Nat × Nat} : ∀ (vs : List Value) (o : Nat) (cur : Array Value) (w : World), w.heap[g]? = some (.cells cur t fr) → o + vs.length ≤ cur.size → w.setCells g o vs = w.setRow g (cur.toList.take o ++ vs ++ cur.toList.drop (o + vs.length)).toArray
 | [], o, cur, w, hg, _ => by
  have e : (cur.toList.take o ++ [] ++ cur.toList.drop (o + ([] : List Value).length)).toArray = cur := by simp
  rw [e]; exact (setRow_self w g cur t fr hg).symm
 | v :: r, o, cur, w, hg, h => by
  simp only [List.length_cons] at h
  rw [World.setCells, setCell_eq_setRow w g o cur t fr v hg]
  rw [setCells_row r (o + 1) (cur.setIfInBounds o v) _ (setRow_heap w g cur _ t fr hg) (by simp; omega), setRow_setRow]
  congr 2
  have e1 : (cur.setIfInBounds o v).toList = cur.toList.take o ++ v :: cur.toList.drop (o + 1) := by
   rw [Array.toList_setIfInBounds, List.set_eq_take_append_cons_drop, if_pos (by simp; omega)]
  have l1 : (cur.toList.take o).length = o := by simp; omega
  rw [e1]
  simp only [List.length_cons]
  rw [show cur.toList.take o ++ v :: cur.toList.drop (o + 1) = (cur.toList.take o ++ [v]) ++ cur.toList.drop (o + 1) by simp]
  have l2 : (cur.toList.take o ++ [v]).length = o + 1 := by simp; omega
  rw [List.take_left' l2, List.drop_append, l2]
  have : List.drop (o + 1 + r.length) (cur.toList.take o ++ [v]) = [] := List.drop_eq_nil_of_le (by omega)
  rw [this, List.drop_drop, List.nil_append]
  simp only [List.append_assoc, List.cons_append, List.nil_append]
  congr 4
  omega
theorem run_app0 {c : Cf} {t e : TypeId} {i : TypeInfo} {z : Value} {b2 sz by_ : Nat} {news : List Value} (hc : appAt c = some (.val (.slice none 0 0), .sl b2 0 1 1, t))
  (ht : C.P.underlying t = some (.slice e)) (hi : C.P.info? e = some i) (hz : i.zero = some z) (hsz : i.size = sz) (hby : i.bytes = by_) (hzs : z.cells.size = sz) (h0 : 0 < sz) (hb : by_ ≤ 4096)
  (hB2 : c.bl[b2]? = some ⟨news.map .val, e⟩) (hnews : news.length = 1 * sz) (h1 : ∀ u ∈ news, u.oneCell' = true)
  (grow : ∀ m' (rest' : List Value), 1 ≤ m' → rest'.length = (m' - 1) * sz → Run C G (resumeG c ⟨(news ++ rest').map .val, e⟩ 1 m')) : Run C G c := by
 obtain ⟨o, x, y, ho, hop, hx, hy⟩ := appAt_op hc
 refine run_grow ho (M := {q : Nat × List Value // 1 ≤ q.1 ∧ q.2.length = (q.1 - 1) * sz}) (fun q => ⟨(news ++ q.1.2).map .val, e⟩) 1 (fun q => q.1.1) (fun r N D a w hfr hD hbl hG => ?_) (fun q => grow q.1.1 q.1.2 q.2.1 q.2.2)
 have dx : ∀ s, x = .tmp s → ¬ D s := fun s hs => hD s (mem_opTmps (by rw [hop]; simp [Op.operands, Call.operands, hs]))
 have dy : ∀ s, y = .tmp s → ¬ D s := fun s hs => hD s (mem_opTmps (by rw [hop]; simp [Op.operands, Call.operands, hs]))
 have ex := opS_ok (x := x) hfr dx
 have ey := opS_ok (x := y) hfr dy
 rw [hx] at ex; rw [hy] at ey
 have ex : a.eval x = .slice none 0 0 := ex.1
 obtain ⟨ey, hN2⟩ := ey
 have ey : a.eval y = .slice (some ⟨r b2, 0, none⟩) 1 1 := ey
 have hc2 := cell_at (P := C.P) (hbl.is b2 _ hB2 hN2).2
 obtain ⟨v', w', hrun, r1, r2, -⟩ := run_append_own (P := C.P) w w.heap.size t o.type e i z sz by_ ht hi hz hsz hby hzs h0 (.slice none 0 0) 0 [] (World.ownsRow_nil w _ e sz) ⟨r b2, 0, none⟩ 1 1 news hnews (fun j u hj => by simp [World.cell?, hc2, Addr.add_lit, hj]) h1 (by simp [maxLen]) (by omega) (Nat.le_refl _)
 obtain ⟨hl, h⟩ := r1
 rcases h with ⟨-, h⟩ | ⟨g, cap, cur, rfl, hg, hcell, hcap, hml, hcs, htk⟩
 ·omega
 ·have hcur : cur.toList = news ++ cur.toList.drop sz := by
   have e4 : cur.toList.take ((0 + 1) * sz) = news := by simpa using htk
   rw [show (0 + 1) * sz = sz by omega] at e4
   conv => lhs; rw [← List.take_append_drop sz cur.toList, e4]
  refine ⟨⟨(cap, cur.toList.drop sz), by simpa using hcap, ?_⟩, g, cur, w', ?_, hg, hcell, ?_, ?_⟩
  ·simp only [List.length_drop, Array.length_toList, hcs]
   rw [Nat.sub_mul]; omega
  ·simp [execOp, hop, resolve, invoke, builtin, ex, ey, hrun, Result.andThen]
  ·show CellsOk r N ((news ++ cur.toList.drop sz).map .val) cur
   rw [← hcur]
   exact cellsOk_vals cur
  ·exact (Below.refl _ w).grown r2 (Nat.le_refl _) (fun k hk => by cases hk)
theorem run_app {c : Cf} {t e : TypeId} {i : TypeInfo} {z : Value} {b b2 n m sz by_ : Nat} {vs news rest : List Value} (hc : appAt c = some (.sl b 0 n m, .sl b2 0 1 1, t))
  (ht : C.P.underlying t = some (.slice e)) (hi : C.P.info? e = some i) (hz : i.zero = some z) (hsz : i.size = sz) (hby : i.bytes = by_) (hzs : z.cells.size = sz) (h0 : 0 < sz) (hb : by_ ≤ 4096)
  (hB : c.bl[b]? = some ⟨(vs ++ rest).map .val, e⟩) (hB2 : c.bl[b2]? = some ⟨news.map .val, e⟩) (hvs : vs.length = n * sz) (hnews : news.length = 1 * sz) (h1 : ∀ u ∈ news, u.oneCell' = true)
  (hrest : rest.length = (m - n) * sz) (hnm : n ≤ m) (hn : n ≤ 1000) (hE : eB C.E c.bl b = true) (hal : aloneB c b = true)
  (room : n + 1 ≤ m → ∀ rest' : List Value, rest'.length = (m - (n + 1)) * sz → Run C G (resumeX c b ⟨(vs ++ news ++ rest').map .val, e⟩ (n + 1) m))
  (grow : ∀ m' (rest' : List Value), n + 1 ≤ m' → rest'.length = (m' - (n + 1)) * sz → Run C G (resumeG c ⟨(vs ++ news ++ rest').map .val, e⟩ (n + 1) m')) : Run C G c := by
 obtain ⟨o, x, y, ho, hop, hx, hy⟩ := appAt_op hc
 have nl : news.length = sz := by omega
 by_cases hr : n + 1 ≤ m
 ·have hrl : sz ≤ rest.length := by
   rw [hrest]
   calc sz = 1 * sz := by omega
    _ ≤ (m - n) * sz := Nat.mul_le_mul_right _ (by omega)
  have h3 := room hr (rest.drop sz) (by
   rw [List.length_drop, hrest, show m - n = (m - (n + 1)) + 1 by omega, Nat.add_mul]; omega)
  have eB' : setBl c.bl b (n * sz) (news.map .val) = c.bl.set b ⟨(vs ++ news ++ rest.drop sz).map .val, e⟩ := by
   have e9 : (vs ++ rest).map SV.val = vs.map SV.val ++ rest.map SV.val := List.map_append ..
   unfold setBl
   rw [hB]
   simp only
   congr 1
   unfold setCellsS
   simp only [Bk.mk.injEq, and_true]
   have l1 : (vs.map SV.val).length = n * sz := by simp [hvs]
   rw [e9, List.map_append, List.map_append, List.take_left' l1, ← l1, List.drop_append]
   congr 1
   rw [show (vs.map SV.val).length + (news.map SV.val).length - (vs.map SV.val).length = sz by simp [nl]]
   have : List.drop ((vs.map SV.val).length + (news.map SV.val).length) (vs.map SV.val) = [] := List.drop_eq_nil_of_le (by omega)
   rw [this, List.nil_append, List.map_drop]
  refine run_room ho b (n * sz) (news.map .val) (n + 1) m hE hal (fun r N D a w hfr hD hbl hG => ?_) ?_
  ·have dx : ∀ s, x = .tmp s → ¬ D s := fun s hs => hD s (mem_opTmps (by rw [hop]; simp [Op.operands, Call.operands, hs]))
   have dy : ∀ s, y = .tmp s → ¬ D s := fun s hs => hD s (mem_opTmps (by rw [hop]; simp [Op.operands, Call.operands, hs]))
   have ex := opS_ok (x := x) hfr dx
   have ey := opS_ok (x := y) hfr dy
   rw [hx] at ex; rw [hy] at ey
   obtain ⟨ex, hN1⟩ := ex
   obtain ⟨ey, hN2⟩ := ey
   have ex : a.eval x = .slice (some ⟨r b, 0, none⟩) n m := ex
   have ey : a.eval y = .slice (some ⟨r b2, 0, none⟩) 1 1 := ey
   have hc1 := cell_at (P := C.P) (hbl.is b _ hB hN1).2
   have hc2 := cell_at (P := C.P) (hbl.is b2 _ hB2 hN2).2
   have hrun := run_append_room_cells (P := C.P) w t o.type e i ht hi (r b) 0 n m ⟨r b2, 0, none⟩ 1 1 news (by rw [hnews, hsz]) (fun j u hj => by simp [World.cell?, hc2, Addr.add_lit, hj]) h1 hr
    (fun j hj => by
     simp only [World.cell?, hc1, hsz]
     have : 0 + n * sz + j < (vs ++ rest).length := by simp only [List.length_append, hvs]; omega
     show ((vs ++ rest).toArray[0 + n * sz + j]?).isSome = true
     rw [List.getElem?_toArray, List.getElem?_eq_getElem this]; rfl)
    (fun j hj => by simp [World.frozen?, hc1])
   refine ⟨_, (vs ++ rest).toArray, news.toArray, hB, hN1, ?_, hc1, cellsOk_vals (vs ++ rest).toArray, cellsOk_vals news.toArray, ?_⟩
   ·simp only [List.length_map, List.length_append, hvs]; omega
   ·have e7 := setCells_row (g := r b) (t := e) (fr := (0, 0)) news (n * sz) (vs ++ rest).toArray w hc1 (by simp only [List.size_toArray, List.length_append, hvs]; omega)
    simp only [hsz, Nat.zero_add] at hrun
    rw [e7] at hrun
    simp [execOp, hop, resolve, invoke, builtin, ex, ey, hrun, Result.andThen]
  ·have h4 := h3
   unfold resumeX at h4
   unfold resumeR
   rw [eB']; exact h4
 ·refine run_grow ho (M := {q : Nat × List Value // n + 1 ≤ q.1 ∧ q.2.length = (q.1 - (n + 1)) * sz}) (fun q => ⟨(vs ++ news ++ q.1.2).map .val, e⟩) (n + 1) (fun q => q.1.1) (fun r N D a w hfr hD hbl hG => ?_) (fun q => grow q.1.1 q.1.2 q.2.1 q.2.2)
  have dx : ∀ s, x = .tmp s → ¬ D s := fun s hs => hD s (mem_opTmps (by rw [hop]; simp [Op.operands, Call.operands, hs]))
  have dy : ∀ s, y = .tmp s → ¬ D s := fun s hs => hD s (mem_opTmps (by rw [hop]; simp [Op.operands, Call.operands, hs]))
  have ex := opS_ok (x := x) hfr dx
  have ey := opS_ok (x := y) hfr dy
  rw [hx] at ex; rw [hy] at ey
  obtain ⟨ex, hN1⟩ := ex
  obtain ⟨ey, hN2⟩ := ey
  have ex : a.eval x = .slice (some ⟨r b, 0, none⟩) n m := ex
  have ey : a.eval y = .slice (some ⟨r b2, 0, none⟩) 1 1 := ey
  have hc1 := cell_at (P := C.P) (hbl.is b _ hB hN1).2
  have hc2 := cell_at (P := C.P) (hbl.is b2 _ hB2 hN2).2
  obtain ⟨v', w', hrun, r1, r2⟩ := run_append_arg_grows (P := C.P) w t o.type e i z sz by_ ht hi hz hsz hby hzs h0 ⟨r b, 0, none⟩ n m vs hvs
   (fun j u hj => by
    have : j < vs.length := (List.getElem?_eq_some_iff.1 hj).1
    simp [World.cell?, hc1, Addr.add_lit, List.getElem?_append_left this, hj]) ⟨r b2, 0, none⟩ 1 1 news hnews (fun j u hj => by simp [World.cell?, hc2, Addr.add_lit, hj]) (by omega) (by simp only [maxLen]; omega) (by
    have : (n + 1) * by_ ≤ 1001 * 4096 := Nat.mul_le_mul (by omega) hb
    omega)
  obtain ⟨hl, h⟩ := r1
  rcases h with ⟨-, h⟩ | ⟨g, cap, cur, rfl, hg, hcell, hcap, hml, hcs, htk⟩
  ·omega
  ·have hcur : cur.toList = vs ++ news ++ cur.toList.drop ((n + 1) * sz) := by
    conv => lhs; rw [← List.take_append_drop ((n + 1) * sz) cur.toList, htk]
   refine ⟨⟨(cap, cur.toList.drop ((n + 1) * sz)), hcap, ?_⟩, g, cur, w', ?_, hg, hcell, ?_, ?_⟩
   ·simp only [List.length_drop, Array.length_toList, hcs]
    rw [Nat.sub_mul]
   ·simp [execOp, hop, resolve, invoke, builtin, ex, ey, hrun, Result.andThen]
   ·show CellsOk r N ((vs ++ news ++ cur.toList.drop ((n + 1) * sz)).map .val) cur
    rw [← hcur]
    exact cellsOk_vals cur
   ·exact (Below.refl _ w).grown r2 (Nat.le_refl _) (fun k hk => by cases hk)
end
end Go.Ev
end
section
namespace Go.Proofs.YthoedmikfpbfnaaGreat
open Go Go.RowKit

def nth (ns : List Int) (i : Nat) : Int := ns.getD i 0
def WRow (B : Nat) (w : World) (v : Value) (ns : List Int) : Prop :=
 ∃ (a : Option Addr) (cap b off : Nat), v = .slice a ns.length cap ∧ (0 < ns.length → a = some ⟨b, off, none⟩ ∧ b < B) ∧
  ∀ i, i < ns.length → w.cell? ⟨b, off + 2 * i, none⟩ = some (.int .i64 (hi (nth ns i))) ∧ w.cell? ⟨b, off + 2 * i + 1, none⟩ = some (.int .u64 (lo (nth ns i)))
theorem WRow.ext {B : Nat} {w w' : World} {v : Value} {ns : List Int} (h : WRow B w v ns) (hB : B ≤ w.heap.size) (x : Ext w w') : WRow B w' v ns := by
 obtain ⟨a, cap, b, off, rfl, h2, h3⟩ := h
 refine ⟨a, cap, b, off, rfl, h2, fun i hi => ?_⟩
 have hb := (h2 (by omega)).2
 exact ⟨(Below.cell x (p := ⟨b, off + 2 * i, none⟩) (by show b < _; omega)).trans (h3 i hi).1, (Below.cell x (p := ⟨b, off + 2 * i + 1, none⟩) (by show b < _; omega)).trans (h3 i hi).2⟩
theorem at_wrow {len cap b off : Nat} {a : Option Addr} (h : 0 < len → a = some ⟨b, off, none⟩) (k : Nat) (h1 : k < len) (w : World) :
  (Instr.indexAt 170 (.slice a len cap) (.int .i64 (k : Int))).run Tryz.prog w = .ok (.pointer (some ⟨b, off + 2 * k, none⟩)) w := by
 rw [h (by omega)]
 have e : Tryz.prog.elem 170 = 42 := by kernel_rfl
 have s : ∀ w, (sizeOf 42).run Tryz.prog w = .ok 2 w := fun _ => by kernel_rfl
 rw [run_indexAt_slice w 170 ⟨b, off, none⟩ len cap .i64 k (by rw [e]; exact Tryz.underlying170), if_pos ⟨by omega, by omega⟩, e, s]
 simp [Result.andThen, Addr.add, Nat.mul_comm]

def tsum (ns : List Int) : Int := ns.sum
theorem tsum_take (ns : List Int) (k : Nat) (h : k < ns.length) : tsum (ns.take (k + 1)) = tsum (ns.take k) + nth ns k := by
 unfold tsum nth
 rw [List.take_succ_eq_append_getElem h, List.sum_append, List.getD, List.getElem?_eq_getElem h]
 simp

def wt (s n : Int) : Int := hsum (hi s) (hi n) ((lo s + lo n) / 18446744073709551616) * 18446744073709551616 + (lo s + lo n) % 18446744073709551616
theorem wt_hi (s n : Int) : hi (wt s n) = hsum (hi s) (hi n) ((lo s + lo n) / 18446744073709551616) := (of_hi_lo _ _ (by omega) (by omega)).1
theorem wt_lo (s n : Int) : lo (wt s n) = (lo s + lo n) % 18446744073709551616 := (of_hi_lo _ _ (by omega) (by omega)).2
def T128 : Int := 340282366920938463463374607431768211456
theorem wt_W (s n : Int) : W128 (wt s n) := by
 rw [W128_iff, wt_hi, hsum_def]; omega
theorem wt_cases {s n : Int} (hs : W128 s) (hn : W128 n) :
  (hi s < 0 → hi n < 0 → 0 ≤ hi (wt s n) → s + n = wt s n - T128) ∧ (0 ≤ hi s → 0 ≤ hi n → hi (wt s n) < 0 → s + n = wt s n + T128) ∧
  (hi s < 0 → 0 ≤ hi n → s + n = wt s n) ∧ (0 ≤ hi s → hi n < 0 → s + n = wt s n) ∧ (hi s < 0 → hi (wt s n) < 0 → s + n = wt s n) ∧ (0 ≤ hi s → 0 ≤ hi (wt s n) → s + n = wt s n) := by
 rw [wt_hi]
 unfold wt T128
 rw [hsum_def]
 unfold W128 at hs hn
 unfold hi lo
 refine ⟨?_, ?_, ?_, ?_, ?_, ?_⟩ <;> intros <;> omega
theorem sum_end {s R t : Int} (hs : W128 s) (h : t = s + R * T128) : (R ≠ 0 → ¬ W128 t) ∧ (R = 0 → t = s ∧ W128 t) := by
 unfold T128 at h
 unfold W128 at *
 constructor <;> intros <;> omega

set_option maxRecDepth 100000 in
set_option maxHeartbeats 1600000 in
theorem wsum (v : Value) (ns : List Int) (w : World) (hr : WRow w.heap.size w v ns) (hl : ns.length ≤ 1000000) (hW : ∀ i, W128 (nth ns i)) :
  Calls Tryz.prog 122 #[v] w (RetT w (tsum ns)) := by
 obtain ⟨a, cap, b, off, rfl, ha, hc⟩ := hr
 have r98 := run_add64'
 go_enter Tryz.func122, Tryz.ntmps122
 go_wp2_with fail
 obtain ⟨V, hV⟩ : ∃ V, V = (w.alloc (.cells #[.int .i64 0, .int .u64 0] 42)).alloc (.cells #[.int .i64 0, .int .u64 0] 42) := ⟨_, rfl⟩
 rw [← hV]
 have hR : Box2 V w.heap.size (.int .i64 0) (.int .u64 0) 42 := by rw [hV]; exact (Box2.new rfl).alloc _
 have hS : Box2 V (w.heap.size + 1) (.int .i64 0) (.int .u64 0) 42 := by rw [hV]; exact Box2.new (by simp)
 have xw : Ext w V := by rw [hV]; exact (Ext.refl w).alloc.alloc
 clear hV
 go_loopw [5, 15] (fun s5 s15 wr => ∃ (k : Nat) (R s : Int), s5 = .int .i64 R ∧ s15 = .int .i64 k ∧ k ≤ ns.length ∧ -(k : Int) ≤ R ∧ R ≤ k ∧ W128 s ∧ tsum (ns.take k) = s + R * T128 ∧
   Box2 wr (w.heap.size + 1) (.int .i64 (hi s)) (.int .u64 (lo s)) 42 ∧ Box2 wr w.heap.size (.int .i64 0) (.int .u64 0) 42 ∧ Ext w wr)
  (fun _ s15 _ => ns.length - (intOf s15).toNat)
 case atStart => exact ⟨0, 0, 0, rfl, rfl, by omega, by omega, by omega, W128_zero, by simp [tsum], hS, hR, xw⟩
 case round =>
  clear hR hS xw
  obtain ⟨k, R, s, rfl, rfl, hk, hR0, hR1, hs, hT, hS, hR, xw⟩ := hrel
  have HT := Lib.hid hT
  clear hT
  have hS_0 := hS.c0; have hS_1 := hS.c1
  have hS_2 := hS.f0; have hS_3 := hS.f1
  have hz3 := hS.kind.lt
  have hz4 := hR.kind.lt
  by_cases hlt : k < ns.length
  ·have hn := hW k
   have hix := fun w => at_wrow (cap := cap) (fun h => (ha h).1) k hlt w
   have hb := (ha (by omega)).2
   have hz := Ext.size xw
   have c0 := (Below.cell xw (p := ⟨b, off + 2 * k, none⟩) hb).trans (hc k hlt).1
   have c1 := (Below.cell xw (p := ⟨b, off + 2 * k + 1, none⟩) hb).trans (hc k hlt).2
   obtain ⟨l0, l1⟩ := lo_bd s
   obtain ⟨m0, m1⟩ := lo_bd (nth ns k)
   have u1 := u64_nonneg (hi s)
   have u2 := u64_nonneg (hi (nth ns k))
   have d0 : 0 ≤ (lo s + lo (nth ns k)) / 18446744073709551616 := by omega
   have d1 : (lo s + lo (nth ns k)) / 18446744073709551616 ≤ 1 := by omega
   clear ha hc
   go_wp2_with fail
   all_goals
    clear r98 u1 u2
    simp only [hsum_eq, ← wt_hi, ← wt_lo] at *
    go_roundw
    case measure => simp [intOf]; omega
   all_goals
    obtain ⟨q1, q2, q3, q4, q5, q6⟩ := wt_cases hs hn
    have hT := HT.out
    have hT2 := tsum_take ns k hlt
    have e1 := Int.sub_mul R 1 T128
    have e2 := Int.add_mul R 1 T128
    first
    | exact ⟨k + 1, R, wt s (nth ns k), rfl, by go_num, by omega, by omega, by omega, wt_W _ _, by rw [hT2, hT]; (first | omega | grind | (simp only [Bool.not_eq_eq_eq_not, Bool.not_false, Bool.not_true, beq_iff_eq, beq_eq_false_iff_ne, ne_eq, decide_eq_decide] at *; omega)), ((hS.set _ _).alloc _).alloc _, ((hR.other2 (by omega) _ _).alloc _).alloc _, (Ext.set (Ext.set xw (by omega)) (by omega)).alloc.alloc⟩
    | exact ⟨k + 1, R - 1, wt s (nth ns k), rfl, by go_num, by omega, by omega, by omega, wt_W _ _, by rw [hT2, hT]; (first | omega | grind | (simp only [Bool.not_eq_eq_eq_not, Bool.not_false, Bool.not_true, beq_iff_eq, beq_eq_false_iff_ne, ne_eq, decide_eq_decide] at *; omega)), ((hS.set _ _).alloc _).alloc _, ((hR.other2 (by omega) _ _).alloc _).alloc _, (Ext.set (Ext.set xw (by omega)) (by omega)).alloc.alloc⟩
    | exact ⟨k + 1, R + 1, wt s (nth ns k), rfl, by go_num, by omega, by omega, by omega, wt_W _ _, by rw [hT2, hT]; (first | omega | grind | (simp only [Bool.not_eq_eq_eq_not, Bool.not_false, Bool.not_true, beq_iff_eq, beq_eq_false_iff_ne, ne_eq, decide_eq_decide] at *; omega)), ((hS.set _ _).alloc _).alloc _, ((hR.other2 (by omega) _ _).alloc _).alloc _, (Ext.set (Ext.set xw (by omega)) (by omega)).alloc.alloc⟩
  ·obtain rfl : k = ns.length := by omega
   have hTe : tsum (ns.take ns.length) = tsum ns := by rw [List.take_length]
   obtain ⟨g1, g2⟩ := sum_end hs HT.out
   rw [hTe] at g1 g2
   have HG1 := Lib.hid g1
   have HG2 := Lib.hid g2
   have r0 := hR.c0
   have r1 := hR.c1
   have r2 := hR.f0
   have r3 := hR.f1
   clear g1 g2 hTe ha hc r98
   by_cases h0 : R = 0
   ·subst h0
    go_wp2_with fail
    obtain ⟨e1, e2⟩ := HG2.out (by trivial)
    refine bodyPost_ret (v := .tuple #[.agg #[.int .i64 (hi s), .int .u64 (lo s)], .int .i64 0]) (by simp [results, Tryz.results122, go_sem, r0, r1]) rfl (retT_yes e2 (by rw [e1]) (by rw [e1]) (Ext.set (Ext.set xw (by omega)) (by omega)))
   ·go_wp2_with fail
    refine bodyPost_ret (v := .tuple #[.agg #[.int .i64 0, .int .u64 0], .int .i64 2]) (by simp [results, Tryz.results122, go_sem, r0, r1]) rfl (retT_no (HG1.out h0) (Ext.set (Ext.set xw (by omega)) (by omega)))
end Go.Proofs.YthoedmikfpbfnaaGreat
end
section
namespace Go.Proofs.YthoedmikfpbfnaaGreat
open Go Go.RowKit Go.Ev

def infoOk (P : Program) (e : TypeId) (s b : Nat) : Bool := match P.info? e with
 | some i => match i.zero with
  | some z => Nat.beq i.size s && Nat.beq i.bytes b && Nat.beq z.cells.size s
  | none => false
 | none => false
theorem infoOk_ex {e : TypeId} {s b : Nat} (h : infoOk Tryz.prog e s b = true) : ∃ i z, Tryz.prog.info? e = some i ∧ i.zero = some z ∧ i.size = s ∧ i.bytes = b ∧ z.cells.size = s := by
 unfold infoOk at h
 split at h
 ·rename_i i hi
  split at h
  ·rename_i z hz
   simp only [Bool.and_eq_true] at h
   exact ⟨i, z, hi, hz, Nat.eq_of_beq_eq_true h.1.1, Nat.eq_of_beq_eq_true h.1.2, Nat.eq_of_beq_eq_true h.2⟩
  ·cases h
 ·cases h
theorem wide_info : infoOk Tryz.prog 42 2 16 = true := by kernel_rfl
section
variable {f0 : FuncId} {E : List TypeId} {w0 : World} {R : Ending → World → Prop} {L : ZL} {G : World → Prop} {c : Cf}
theorem st_app0w {b2 : Nat} {v1 v2 : Value} (hc : appAt (adv Tryz.prog E 9999 400 c) = some (.val (.slice none 0 0), .sl b2 0 1 1, 170)) (hB2 : (adv Tryz.prog E 9999 400 c).bl[b2]? = some ⟨[.val v1, .val v2], 42⟩) (h1 : v1.oneCell' = true) (h2 : v2.oneCell' = true)
  (hk : ∀ (m : Nat) (rest : List Value), 1 ≤ m → rest.length = (m - 1) * 2 → Ru ⟨Tryz.prog, f0, E, w0, R⟩ G (resumeG (adv Tryz.prog E 9999 400 c) ⟨([v1, v2] ++ rest).map .val, 42⟩ 1 m)) : Ru ⟨Tryz.prog, f0, E, w0, R⟩ G c := by
 obtain ⟨i, z, hi, hz, hs, hb, hzs⟩ := infoOk_ex wide_info
 exact ⟨run_adv mixed (run_app0 hc Tryz.underlying170 hi hz hs hb hzs (by omega) (by omega) (news := [v1, v2]) hB2 rfl (by simp [h1, h2]) fun m rest a b => (hk m rest a b).h)⟩
theorem st_appw {b b2 n m : Nat} {vs rest : List Value} {v1 v2 : Value} (hc : appAt (adv Tryz.prog E 9999 400 c) = some (.sl b 0 n m, .sl b2 0 1 1, 170)) (hB : (adv Tryz.prog E 9999 400 c).bl[b]? = some ⟨(vs ++ rest).map .val, 42⟩)
  (hB2 : (adv Tryz.prog E 9999 400 c).bl[b2]? = some ⟨[.val v1, .val v2], 42⟩) (h1 : v1.oneCell' = true) (h2 : v2.oneCell' = true) (hvs : vs.length = n * 2) (hrest : rest.length = (m - n) * 2) (hnm : n ≤ m) (hn : n ≤ 1000)
  (hE : eB E (adv Tryz.prog E 9999 400 c).bl b = true) (hal : aloneB (adv Tryz.prog E 9999 400 c) b = true)
  (room : n + 1 ≤ m → ∀ rest' : List Value, rest'.length = (m - (n + 1)) * 2 → Ru ⟨Tryz.prog, f0, E, w0, R⟩ G (resumeX (adv Tryz.prog E 9999 400 c) b ⟨(vs ++ [v1, v2] ++ rest').map .val, 42⟩ (n + 1) m))
  (grow : ∀ (m' : Nat) (rest' : List Value), n + 1 ≤ m' → rest'.length = (m' - (n + 1)) * 2 → Ru ⟨Tryz.prog, f0, E, w0, R⟩ G (resumeG (adv Tryz.prog E 9999 400 c) ⟨(vs ++ [v1, v2] ++ rest').map .val, 42⟩ (n + 1) m')) : Ru ⟨Tryz.prog, f0, E, w0, R⟩ G c := by
 obtain ⟨i, z, hi, hz, hs, hb, hzs⟩ := infoOk_ex wide_info
 exact ⟨run_adv mixed (run_app hc Tryz.underlying170 hi hz hs hb hzs (by omega) (by omega) hB (news := [v1, v2]) hB2 hvs rfl (by simp [h1, h2]) hrest hnm hn hE hal (fun a r q => (room a r q).h) fun m r a q => (grow m r a q).h)⟩
theorem st_sum5 {b m : Nat} {n1 n2 n3 n4 n5 : Int} {rest : List Value} (s : Int) (hs : s = n1 + n2 + n3 + n4 + n5) (w1 : W128 n1) (w2 : W128 n2) (w3 : W128 n3) (w4 : W128 n4) (w5 : W128 n5) (ws : W128 s)
  (hc : callAt (adv Tryz.prog E 9999 400 c) = some (122, [.sl b 0 5 m]))
  (hB : (adv Tryz.prog E 9999 400 c).bl[b]? = some ⟨([Value.int .i64 (hi n1), .int .u64 (lo n1), .int .i64 (hi n2), .int .u64 (lo n2), .int .i64 (hi n3), .int .u64 (lo n3), .int .i64 (hi n4), .int .u64 (lo n4), .int .i64 (hi n5), .int .u64 (lo n5)] ++ rest).map .val, 42⟩)
  (hk : Ru ⟨Tryz.prog, f0, E, w0, R⟩ (ZAll L) (resume (adv Tryz.prog E 9999 400 c) (.val (.tuple #[wv s, .int .i64 0])))) : Ru ⟨Tryz.prog, f0, E, w0, R⟩ (ZAll L) c := by
 refine ⟨run_adv mixed fun hst => run_call hc ent122 (X := Unit) (fun _ => .val (.tuple #[wv s, .int .i64 0])) (fun _ _ => True) (fun _ _ _ _ _ => trivial) (fun _ _ => trivial) (fun r N w us ha hbl hG => ?_) (fun _ => hk.h.mono hst fun w hw => hw.1) hst⟩
 obtain ⟨u, rfl, hu, hfr⟩ : ∃ u, us = [u] ∧ u = Value.slice (some ⟨r b, 0, none⟩) 5 m ∧ ¬ N b := by
  match us, ha with
  | [u], h => exact ⟨u, rfl, h.1.1, h.1.2⟩
 subst hu
 have hb := (hbl.is b _ hB hfr).2
 have hcell := cell_at (P := Tryz.prog) hb
 have hlt := hbl.lt hB hfr
 have hrow : WRow w.heap.size w (.slice (some ⟨r b, 0, none⟩) 5 m) [n1, n2, n3, n4, n5] := by
  refine ⟨some ⟨r b, 0, none⟩, m, r b, 0, rfl, fun _ => ⟨rfl, hlt⟩, fun i hi => ?_⟩
  have hi' : i = 0 ∨ i = 1 ∨ i = 2 ∨ i = 3 ∨ i = 4 := by simp at hi; omega
  rcases hi' with rfl | rfl | rfl | rfl | rfl <;> simp [World.cell?, hcell, nth]
 have hw : ∀ i, W128 (nth [n1, n2, n3, n4, n5] i) := fun i => by
  by_cases h : i < 5
  ·have hi' : i = 0 ∨ i = 1 ∨ i = 2 ∨ i = 3 ∨ i = 4 := by omega
   rcases hi' with rfl | rfl | rfl | rfl | rfl <;> assumption
  ·have : nth [n1, n2, n3, n4, n5] i = 0 := by unfold nth; rw [List.getD_eq_getElem?_getD, List.getElem?_eq_none (by simp; omega)]; rfl
   rw [this]; unfold W128; omega
 have e : tsum [n1, n2, n3, n4, n5] = s := by rw [hs]; unfold tsum; simp; omega
 refine (wsum _ _ w hrow (by simp) hw).mono fun e' w' ⟨h1, h2⟩ => ⟨(), _, h1, ?_, h2, trivial⟩
 rw [e, thi_yes ws, tlo_yes ws, ter_yes ws]
 rfl
end
/-! a row out of a pointer -/
theorem cellsOk_nil {r : Nat → Nat} {N : Nat → Prop} : CellsOk r N [] #[] := ⟨rfl, fun i s h => by cases h⟩
theorem cellsOk_cons {r : Nat → Nat} {N : Nat → Prop} {s : SV} {u : Value} {ss : List SV} {us : List Value} (h : SV.Ok r N s u) (k : CellsOk r N ss us.toArray) : CellsOk r N (s :: ss) (u :: us).toArray := by
 obtain ⟨k1, k2⟩ := k
 refine ⟨by simpa using k1, fun i s' hi => ?_⟩
 cases i with
 | zero =>
  obtain rfl : s = s' := by simpa using hi
  exact ⟨u, by simp, h⟩
 | succ i =>
  obtain ⟨u', h1, h2⟩ := k2 i s' (by simpa using hi)
  exact ⟨u', by simpa using h1, h2⟩
section
variable {f0 : FuncId} {E : List TypeId} {w0 : World} {R : Ending → World → Prop} {L : ZL} {G : World → Prop} {c : Cf}
theorem st_rowP {f : FuncId} {vs : Nat → Nat → List Value} {T : TypeId} {n b o : Nat} (ss : List SV) (he : Enters Tryz.prog f) (h : ∀ b o, FnB f [.pointer (some ⟨b, o, none⟩)] (vs b o) T n) (hcs : ∀ (r : Nat → Nat) (N : Nat → Prop), ¬ N b → CellsOk r N ss (vs (r b) o).toArray) (hc : callAt (adv Tryz.prog E 9999 400 c) = some (f, [.ptr b o]))
  (hk : Ru ⟨Tryz.prog, f0, E, w0, R⟩ (ZAll L) (resumeB (adv Tryz.prog E 9999 400 c) ⟨ss, T⟩ n)) : Ru ⟨Tryz.prog, f0, E, w0, R⟩ (ZAll L) c := by
 refine ⟨run_adv mixed (run_callB hc he ⟨ss, T⟩ n (fun r N w us ha hbl hG => ?_) hk.h)⟩
 obtain ⟨u, rfl, hu, hfr⟩ : ∃ u, us = [u] ∧ u = Value.pointer (some ⟨r b, o, none⟩) ∧ ¬ N b := by
  match us, ha with
  | [u], h => exact ⟨u, rfl, h.1.1, h.1.2⟩
 subst hu
 exact (h (r b) o w).mono fun e w' ⟨k, h1, h2, h3, h4⟩ => ⟨k, _, h1, h2, h3, hcs r N hfr, h4⟩
end
end Go.Proofs.YthoedmikfpbfnaaGreat
end
section
namespace Go.Proofs.YthoedmikfpbfnaaGreat
open Go Go.RowKit Go.Ev

def Mem (l : List (Nat × List Value × TypeId)) (w : World) : Prop := ∀ p ∈ l, w.heap[p.1]? = some (.cells p.2.1.toArray p.2.2 (0, 0))
theorem Mem.stable {E : List TypeId} {l : List (Nat × List Value × TypeId)} (h : ∀ p ∈ l, p.2.2 ∈ E) : Stable E (Mem l) := fun w w' hk hw p hp => hk _ _ _ _ (h p hp) (hw p hp)
section
variable {f0 : FuncId} {E : List TypeId} {w0 : World} {R : Ending → World → Prop} {L : ZL} {G : World → Prop} {c : Cf}
structure BackG (C : Cx) (c : Cf) {X : Type} (I : X → List SV × List Bk) (G : World → Prop) (p : X → Prop) (m : X → Nat) (x : X) : Prop where
 h : ∀ x' (G' : World → Prop), m x' < m x → p x' → (∀ w, G' w → G w) → Run C G' (backL c (I x'))
theorem st_loopG {X : Type} (I : X → List SV × List Bk) (p : X → Prop) (m : X → Nat) (x0 : X) (hc : (loopAt (adv Tryz.prog E 9999 400 c)).isSome = true) (h0 : fb (adv Tryz.prog E 9999 400 c) = I x0) (hs : Stable E G) (hp : p x0)
  (round : ∀ x, p x → BackG ⟨Tryz.prog, f0, E, w0, R⟩ (adv Tryz.prog E 9999 400 c) I G p m x → Ru ⟨Tryz.prog, f0, E, w0, R⟩ G (enterL (adv Tryz.prog E 9999 400 c) (I x))) : Ru ⟨Tryz.prog, f0, E, w0, R⟩ G c := by
 refine ⟨run_adv (t := 9999) (n := 400) mixed ?_⟩
 show Run _ _ (adv Tryz.prog E 9999 400 c)
 generalize adv Tryz.prog E 9999 400 c = c1 at *
 cases hl : loopAt c1 with
 | none => rw [hl] at hc; cases hc
 | some bk =>
  obtain ⟨b, k⟩ := bk
  refine run_loop hl I (fun x w => G w ∧ p x) (fun x w w' hk hw => ⟨hs w w' hk hw.1, hw.2⟩) m x0 h0 (fun w hw => ⟨hw, hp⟩) ?_
  intro x back
  refine run_know (p := p x) (fun w hw => hw.2) fun hx => ?_
  have hb : BackG ⟨Tryz.prog, f0, E, w0, R⟩ c1 I G p m x := ⟨fun x' G' hm hp' hG => by
   have := back x' G' hm (fun w hw => ⟨hG w hw, hp'⟩)
   unfold backL; rw [hl]; exact this⟩
  have := (round x hx hb).h
  unfold enterL at this; rw [hl] at this
  exact this.mono hs fun w hw => hw.1
theorem st_backG {X : Type} {c0 : Cf} {I : X → List SV × List Bk} {p : X → Prop} {m : X → Nat} {x : X} (hb : BackG ⟨Tryz.prog, f0, E, w0, R⟩ c0 I G p m x) (x' : X) (hm : m x' < m x) (hp : p x')
  (h0 : fb (adv Tryz.prog E 9999 400 c) = I x') (hc : loopBack (adv Tryz.prog E 9999 400 c) = loopAt c0) (hs : (loopAt c0).isSome = true) : Ru ⟨Tryz.prog, f0, E, w0, R⟩ G c := by
 refine ⟨run_adv (t := 9999) (n := 400) mixed ?_⟩
 show Run _ _ (adv Tryz.prog E 9999 400 c)
 generalize adv Tryz.prog E 9999 400 c = c1 at *
 cases hl : loopAt c0 with
 | none => rw [hl] at hs; cases hs
 | some bk =>
  obtain ⟨b, k⟩ := bk
  rw [hl] at hc
  have := hb.h x' G hm hp (fun w hw => hw)
  unfold backL at this; rw [hl] at this
  exact run_back hc (fr := (I x').1) (bl := (I x').2) h0 this
end
end Go.Proofs.YthoedmikfpbfnaaGreat
end
section
namespace Go.Ev
open Go Go.RowKit

def phi (ph : List Nat) (b : Nat) : Nat := ph.getD b 0
def renP (ph : List Nat) : Cp → Cp
 | .ptr b o => .ptr (phi ph b) o
 | .val v => .val v
def renS (ph : List Nat) : SV → SV
 | .ptr b o => .ptr (phi ph b) o
 | .sl b o l c => .sl (phi ph b) o l c
 | .clo f cs => .clo f (cs.map (renP ph))
 | s => s
def lentS (n : Nat) : SV → Bool
 | .val _ => true
 | .ptr b _ => Nat.blt b n
 | .sl b _ _ _ => Nat.blt b n
 | .clo _ cs => cs.all fun | .ptr b _ => Nat.blt b n | .val _ => true
 | _ => false
theorem ren_ok {ph : List Nat} {n : Nat} {r : Nat → Nat} {s : SV} {u : Value} (h : lentS n s = true) (k : (renS ph s).Is r u) : s.Ok (fun b => r (phi ph b)) (fun b => n ≤ b) u := by
  cases s with
  | val v => exact ⟨k, trivial⟩
  | ptr b o =>
    refine ⟨k, fun hn => ?_⟩
    have : b < n := by simpa [lentS, Nat.blt_eq] using h
    omega
  | sl b o l c =>
    refine ⟨k, fun hn => ?_⟩
    have : b < n := by simpa [lentS, Nat.blt_eq] using h
    omega
  | clo f cs =>
    refine ⟨?_, fun c hc => ?_⟩
    · simp only [renS, SV.Is] at k ⊢
      rw [k]
      congr 2
      rw [List.map_map]
      apply List.map_congr_left
      intro c _
      cases c <;> rfl
    · have := List.all_eq_true.1 h c hc
      cases c with
      | ptr b o => exact fun hn => by have : b < n := by simpa [Nat.blt_eq] using this
                                      omega
      | val v => trivial
  | row cs => cases h
  | any => cases h
theorem ren_args {ph : List Nat} {n : Nat} {r : Nat → Nat} {N : Nat → Prop} : ∀ {ss : List SV} {us : List Value}, ss.all (lentS n) = true → Args r N (ss.map (renS ph)) us → Args (fun b => r (phi ph b)) (fun b => n ≤ b) ss us
 | [], [], _, _ => trivial
 | s :: ss, u :: us, h, k => by
  simp only [List.all_cons, Bool.and_eq_true] at h
  exact ⟨ren_ok h.1 k.1.1, ren_args h.2 k.2⟩
 | [], _ :: _, _, k => k.elim
 | _ :: _, [], _, k => k.elim
theorem ren_cells {ph : List Nat} {n : Nat} {r : Nat → Nat} {N : Nat → Prop} {ss : List SV} {cs : Array Value} (h : ss.all (lentS n) = true) (k : CellsOk r N (ss.map (renS ph)) cs) : CellsOk (fun b => r (phi ph b)) (fun b => n ≤ b) ss cs := by
 refine ⟨by simpa using k.1, fun i s hi => ?_⟩
 obtain ⟨u, h1, h2⟩ := k.2 i (renS ph s) (by simp [hi])
 exact ⟨u, h1, ren_ok (List.all_eq_true.1 h s (List.mem_of_getElem? hi)) h2.1⟩
def namesC (b : Nat) : Cp → Bool
 | .ptr k _ => Nat.beq k b
 | .val _ => false
def namesS (b : Nat) : SV → Bool
 | .ptr k _ => Nat.beq k b
 | .sl k _ _ _ => Nat.beq k b
 | .clo _ cs => cs.any (namesC b)
 | _ => false
theorem names_fresh {ph : List Nat} {N : Nat → Prop} {b : Nat} {s : SV} (h : namesS b s = true) (k : (renS ph s).Fresh N) : ¬ N (phi ph b) := by
 cases s with
 | ptr j o => obtain rfl := Nat.eq_of_beq_eq_true h; exact k
 | sl j o l c => obtain rfl := Nat.eq_of_beq_eq_true h; exact k
 | clo f cs =>
  obtain ⟨c, hc, hn⟩ := List.any_eq_true.1 h
  have h1 := k (renP ph c) (List.mem_map.2 ⟨c, hc, rfl⟩)
  cases c with
  | ptr j o => obtain rfl := Nat.eq_of_beq_eq_true hn; exact h1
  | val v => cases hn
 | val v => cases h
 | row cs => cases h
 | any => cases h
def reachB (ss : List SV) (bl : List Bk) : Bool := (List.range bl.length).all fun k => ss.any (namesS k) || (bl.take k).any fun B => B.cells.any (namesS k)
theorem args_fresh {r : Nat → Nat} {N : Nat → Prop} {g : SV → SV} : ∀ {ss : List SV} {us : List Value}, Args r N (ss.map g) us → ∀ s ∈ ss, (g s).Fresh N
 | [], _, _, s, hs => by cases hs
 | s :: ss, u :: us, h, s', hs => by
  rcases List.mem_cons.1 hs with rfl | hs
  ·exact h.1.2
  ·exact args_fresh h.2 s' hs
 | _ :: _, [], h, _, _ => h.elim
def nodupB : List Nat → Bool
 | [] => true
 | x :: l => !memN x l && nodupB l
theorem nodup_inj : ∀ {l : List Nat}, nodupB l = true → ∀ {i j x : Nat}, l[i]? = some x → l[j]? = some x → i = j
 | [], _, i, j, x, hi, _ => by simp at hi
 | y :: l, h, i, j, x, hi, hj => by
  simp only [nodupB, Bool.and_eq_true, Bool.not_eq_true'] at h
  have hno : ∀ k : Nat, l[k]? ≠ some y := fun k hk => by
   have : memN y l = true := memN_iff.2 (List.mem_of_getElem? hk)
   rw [h.1] at this; cases this
  cases i with
  | zero =>
   obtain rfl : y = x := by simpa using hi
   cases j with
   | zero => rfl
   | succ j => exact absurd (by simpa using hj) (hno j)
  | succ i =>
   cases j with
   | zero =>
    obtain rfl : y = x := by simpa using hj
    exact absurd (by simpa using hi) (hno i)
   | succ j =>
    have := nodup_inj h.2 (i := i) (j := j) (x := x) (by simpa using hi) (by simpa using hj)
    omega
end Go.Ev
namespace Go.Proofs.YthoedmikfpbfnaaGreat
open Go Go.RowKit Go.Ev

def FnM (f : FuncId) (ss : List SV) (bl : List Bk) (v : Value) : Prop := ∀ (r : Nat → Nat) (w : World) (us : List Value), Args r (fun b => bl.length ≤ b) ss us → (∀ (b : Nat) (B : Bk), bl[b]? = some B → BkIs r (fun b => bl.length ≤ b) w (r b) B) →
 (∀ b b' : Nat, b < bl.length → b' < bl.length → r b = r b' → b = b') → Calls Tryz.prog f us.toArray w fun e w' => e = .returned v ∧ Below w.heap.size w w'
def lentE (E : List TypeId) (bl : List Bk) : Bool := memN 999999 E && bl.all fun B => memN B.t E
theorem zall_any (E : List TypeId) : Stable E (ZAll []) := fun _ w' _ _ => zall_nil w'
theorem fnM_of (E : List TypeId) {f : FuncId} {fn : Func} {c : Code} {ss : List SV} {bl : List Bk} {v : Value} (hf : Tryz.prog.funcs[f]? = some fn) (hb : fn.body = some c) (hE : lentE E bl = true) (h : ∀ w, Ru ⟨Tryz.prog, f, E, w, EndV w v⟩ (ZAll []) (startB fn ss bl)) : FnM f ss bl v := by
 intro r w us ha hk hi
 unfold lentE at hE
 rw [Bool.and_eq_true] at hE
 refine calls_runB E (ZAll []) hf hb (zall_any E) (zall_nil w) ha ⟨fun b B hB hn => ⟨?_, hk b B hB⟩, fun b b' h1 h2 _ _ h3 => hi b b' h1 h2 h3⟩ (h w).h
 have : memN B.t E = true := List.all_eq_true.1 hE.2 B (List.mem_of_getElem? hB)
 unfold Cx.base
 rw [if_pos (by rw [hE.1, this]; rfl)]
 exact Nat.zero_le _
def okM (ss : List SV) (bl : List Bk) (ph : List Nat) : Bool := ss.all (lentS bl.length) && (bl.all fun B => B.cells.all (lentS bl.length)) && Nat.beq ph.length bl.length && nodupB ph && reachB ss bl
section
variable {f0 : FuncId} {E : List TypeId} {w0 : World} {R : Ending → World → Prop} {G : World → Prop} {c : Cf}
theorem st_fm {f : FuncId} {ss : List SV} {bl' : List Bk} {v : Value} (ph : List Nat) (he : Enters Tryz.prog f) (h : FnM f ss bl' v) (hc : callAt (adv Tryz.prog E 9999 400 c) = some (f, ss.map (renS ph))) (hok : okM ss bl' ph = true)
  (hB : ph.map (fun b => (adv Tryz.prog E 9999 400 c).bl[b]?) = bl'.map fun B => some ⟨B.cells.map (renS ph), B.t⟩)
  (hk : Ru ⟨Tryz.prog, f0, E, w0, R⟩ G (resume (adv Tryz.prog E 9999 400 c) (.val v))) : Ru ⟨Tryz.prog, f0, E, w0, R⟩ G c := by
 simp only [okM, Bool.and_eq_true] at hok
 obtain ⟨⟨⟨⟨hl, hcl⟩, hlen⟩, hnd⟩, hr⟩ := hok
 have hlen := Nat.eq_of_beq_eq_true hlen
 refine ⟨run_adv mixed fun hs => run_call hc he (X := Unit) (fun _ => .val v) (fun _ _ => True) (fun _ _ _ _ _ => trivial) (fun _ _ => trivial) (fun r N w us ha hbl hG => ?_) (fun _ => hk.h.mono hs fun w hw => hw.1) hs⟩
 generalize adv Tryz.prog E 9999 400 c = c1 at *
 have at_ : ∀ b : Nat, b < bl'.length → ph[b]? = some (phi ph b) := fun b hb => by
  have hlt : b < ph.length := by omega
  simp [phi, List.getD_eq_getElem?_getD, List.getElem?_eq_getElem hlt]
 have blk : ∀ (b : Nat) (B : Bk), bl'[b]? = some B → c1.bl[phi ph b]? = some ⟨B.cells.map (renS ph), B.t⟩ := fun b B hb => by
  have h1 := congrArg (·[b]?) hB
  simp only [List.getElem?_map, hb, at_ b (List.getElem?_eq_some_iff.1 hb).1, Option.map_some, Option.some.injEq] at h1
  exact h1
 have fresh : ∀ n b : Nat, b < n → b < bl'.length → ¬ N (phi ph b) := by
  intro n
  induction n with
  | zero => intro b hb; omega
  | succ n ih =>
   intro b hb hlt
   have h1 := List.all_eq_true.1 hr b (List.mem_range.2 hlt)
   rw [Bool.or_eq_true] at h1
   rcases h1 with h2 | h2
   ·obtain ⟨s, hs, hn⟩ := List.any_eq_true.1 h2
    exact names_fresh hn (args_fresh ha s hs)
   ·obtain ⟨B, hBm, h3⟩ := List.any_eq_true.1 h2
    obtain ⟨s, hs, hn⟩ := List.any_eq_true.1 h3
    obtain ⟨j, hj⟩ := List.mem_iff_getElem?.1 hBm
    rw [List.getElem?_take] at hj
    split at hj
    ·rename_i hjb
     have fj := ih j (by omega) (by omega)
     obtain ⟨-, cs, hcs, hok⟩ := hbl.is _ _ (blk j B hj) fj
     obtain ⟨i, hi⟩ := List.mem_iff_getElem?.1 hs
     obtain ⟨u, _, hu⟩ := hok.2 i (renS ph s) (by simp [hi])
     exact names_fresh hn hu.2
    ·cases hj
 have lt : ∀ (b : Nat) (B : Bk), bl'[b]? = some B → b < bl'.length := fun b B hb => (List.getElem?_eq_some_iff.1 hb).1
 refine (h (fun b => r (phi ph b)) w us (ren_args hl ha) (fun b B hb => ?_) (fun b b' h1 h2 e => ?_)).mono fun e w' ⟨h1, h2⟩ => ⟨(), v, h1, rfl, h2, trivial⟩
 ·obtain ⟨-, cs, hcs, hok⟩ := hbl.is _ _ (blk b B hb) (fresh _ b (Nat.lt_succ_self _) (lt b B hb))
  exact ⟨cs, hcs, ren_cells (List.all_eq_true.1 hcl B (List.mem_of_getElem? hb)) hok⟩
 ·have q : ∀ x : Nat, x < bl'.length → phi ph x < c1.bl.length := fun x hx => (List.getElem?_eq_some_iff.1 (blk x _ (List.getElem?_eq_getElem hx))).1
  have e2 := hbl.inj _ _ (q b h1) (q b' h2) (fresh _ b (Nat.lt_succ_self _) h1) (fresh _ b' (Nat.lt_succ_self _) h2) e
  have a1 := at_ b h1
  have a2 := at_ b' h2
  rw [e2] at a1
  exact nodup_inj hnd a1 a2
end
end Go.Proofs.YthoedmikfpbfnaaGreat
end
section
namespace Go.Proofs.YthoedmikfpbfnaaGreat

def ymi (y m : Int) : Int := 12 * y + (m - 1)
def lY (t : Int) : Int := t / 12
def lM (t : Int) : Int := t % 12 + 1
theorem ymi_l (t : Int) : ymi (lY t) (lM t) = t ∧ 1 ≤ lM t ∧ lM t ≤ 12 := by unfold ymi lY lM; omega
theorem l_ymi {y m : Int} (h1 : 1 ≤ m) (h2 : m ≤ 12) : lY (ymi y m) = y ∧ lM (ymi y m) = m := by unfold ymi lY lM; omega
theorem ymi_inj {y m y' m' : Int} (h1 : 1 ≤ m) (h2 : m ≤ 12) (h3 : 1 ≤ m') (h4 : m' ≤ 12) (e : ymi y m = ymi y' m') : y = y' ∧ m = m' := by unfold ymi at e; omega
theorem cmp3_ym {y m d y' m' d' : Int} (h1 : 1 ≤ m) (h2 : m ≤ 12) (h3 : 1 ≤ m') (h4 : m' ≤ 12) : cmp3 y m d y' m' d' = if ymi y m = ymi y' m' then cmpI d d' else cmpI (ymi y m) (ymi y' m') := by
 unfold cmp3
 by_cases e1 : y = y'
 ·by_cases e2 : m = m'
  ·subst e1; subst e2; rw [if_pos rfl, if_pos rfl, if_pos rfl]
  ·rw [if_pos e1, if_neg e2, if_neg (by unfold ymi; omega)]
   exact cmpI_congr (by unfold ymi; omega) (by unfold ymi; omega)
 ·rw [if_neg e1, if_neg (by unfold ymi; omega)]
  exact cmpI_congr (by unfold ymi; omega) (by unfold ymi; omega)
theorem cmp3_tri (y m d y' m' d' : Int) : cmp3 y m d y' m' d' = -1 ∨ cmp3 y m d y' m' d' = 0 ∨ cmp3 y m d y' m' d' = 1 := by
 unfold cmp3 cmpI; split <;> (try split) <;> (try split) <;> (try split) <;> simp
theorem cmpI_anti (a b : Int) : cmpI a b = -cmpI b a := by
 unfold cmpI; split <;> split <;> (try split) <;> (try split) <;> omega
theorem cmp3_anti (y m d y' m' d' : Int) : cmp3 y m d y' m' d' = -cmp3 y' m' d' y m d := by
 unfold cmp3
 by_cases e1 : y = y'
 ·by_cases e2 : m = m'
  ·rw [if_pos e1, if_pos e2, if_pos e1.symm, if_pos e2.symm]; exact cmpI_anti _ _
  ·rw [if_pos e1, if_neg e2, if_pos e1.symm, if_neg (Ne.symm e2)]; exact cmpI_anti _ _
 ·rw [if_neg e1, if_neg (Ne.symm e1)]; exact cmpI_anti _ _
def mM (s y m d y' m' d' : Int) : Int := if s = 1 then ymi y' m' - ymi y m - (if d' < d then 1 else 0) else ymi y m - ymi y' m' - (if d < d' then 1 else 0)
theorem cmp3_p {y m d y' m' d' : Int} (h1 : 1 ≤ m) (h2 : m ≤ 12) (h3 : 1 ≤ m') (h4 : m' ≤ 12) : cmp3 y m d y' m' d' = 1 ↔ ymi y' m' < ymi y m ∨ ymi y m = ymi y' m' ∧ d' < d := by
 rw [cmp3_ym h1 h2 h3 h4]
 by_cases e : ymi y m = ymi y' m'
 ·rw [if_pos e, cmpI_p]; omega
 ·rw [if_neg e, cmpI_p]; omega
theorem cmp3_n {y m d y' m' d' : Int} (h1 : 1 ≤ m) (h2 : m ≤ 12) (h3 : 1 ≤ m') (h4 : m' ≤ 12) : cmp3 y m d y' m' d' = -1 ↔ ymi y m < ymi y' m' ∨ ymi y m = ymi y' m' ∧ d < d' := by
 rw [cmp3_ym h1 h2 h3 h4]
 by_cases e : ymi y m = ymi y' m'
 ·rw [if_pos e, cmpI_n]; omega
 ·rw [if_neg e, cmpI_n]; omega
section
variable {s y m d y' m' d' : Int}
theorem fits_iff (h1 : 1 ≤ m) (h2 : m ≤ 12) (h3 : 1 ≤ m') (h4 : m' ≤ 12) (hs : s = 1 ∨ s = -1) (k : Int) :
  cmp3 (lY (ymi y m + s * k)) (lM (ymi y m + s * k)) d y' m' d' ≠ s ↔ k ≤ mM s y m d y' m' d' := by
 obtain ⟨a, b, c⟩ := ymi_l (ymi y m + s * k)
 rcases hs with rfl | rfl
 ·rw [ne_eq, cmp3_p b c h3 h4, a]; unfold mM; rw [if_pos rfl]; split <;> omega
 ·rw [ne_eq, cmp3_n b c h3 h4, a]; unfold mM; rw [if_neg (by omega)]; split <;> omega
theorem mM_pos (h1 : 1 ≤ m) (h2 : m ≤ 12) (h3 : 1 ≤ m') (h4 : m' ≤ 12) (hs : s = 1 ∨ s = -1) (e : cmp3 y' m' d' y m d = s) : 0 ≤ mM s y m d y' m' d' := by
 have := (fits_iff (d := d) (d' := d') h1 h2 h3 h4 hs 0).1 (by
  rw [show ymi y m + s * 0 = ymi y m by omega, (l_ymi h1 h2).1, (l_ymi h1 h2).2, cmp3_anti, e]; omega)
 exact this
theorem mM_le (h1 : 1 ≤ m) (h2 : m ≤ 12) (h3 : 1 ≤ m') (h4 : m' ≤ 12) (hs : s = 1 ∨ s = -1) : mM s y m d y' m' d' ≤ 12 * (if s = 1 then y' - y else y - y') + 11 := by
 rcases hs with rfl | rfl
 ·rw [if_pos rfl]; unfold mM ymi; rw [if_pos rfl]; split <;> omega
 ·rw [if_neg (by omega)]; unfold mM ymi; rw [if_neg (by omega)]; split <;> omega
end
def cD (y m d : Int) : Int := if mlen y m < d then mlen y m else d
theorem cD_in {y m d : Int} (h1 : 1 ≤ m) (h2 : m ≤ 12) (h3 : 1 ≤ d) : dIn y m (cD y m d) := by
 have := (mlen_ge (y := y) h1 h2).1
 unfold dIn cD; split <;> omega
theorem cD_le (y m d : Int) : cD y m d ≤ d := by unfold cD; split <;> omega
def fY' (s y m d y' m' d' : Int) : Int := lY (ymi y m + s * mM s y m d y' m' d')
def fM' (s y m d y' m' d' : Int) : Int := lM (ymi y m + s * mM s y m d y' m' d')
def fD' (s y m d y' m' d' : Int) : Int := cD (fY' s y m d y' m' d') (fM' s y m d y' m' d') d
def fL (s y m d y' m' d' : Int) : Int := dnum y' m' d' - dnum (fY' s y m d y' m' d') (fM' s y m d y' m' d') (fD' s y m d y' m' d')
section
variable {s y m d y' m' d' : Int}
theorem dnum_le {y m d y' m' d' : Int} (h : dIn y m d) (h' : dIn y' m' d') (k : ymi y m < ymi y' m' ∨ ymi y m = ymi y' m' ∧ d ≤ d') : dnum y m d ≤ dnum y' m' d' := by
 rcases k with k | ⟨k, l⟩
 ·exact Int.le_of_lt (dnum_lt h h' (by
   have a1 := h.1; have a2 := h.2.1; have a3 := h'.1; have a4 := h'.2.1
   unfold ymi at k; omega))
 ·obtain ⟨rfl, rfl⟩ := ymi_inj h.1 h.2.1 h'.1 h'.2.1 k
  unfold dnum; omega
theorem from_ok (h : dOk y m d) (h' : dOk y' m' d') (hs : s = 1 ∨ s = -1) (e : cmp3 y' m' d' y m d = s) :
  dOk (fY' s y m d y' m' d') (fM' s y m d y' m' d') (fD' s y m d y' m' d') ∧ 0 ≤ s * fL s y m d y' m' d' ∧ s * fL s y m d y' m' d' ≤ 30 := by
 obtain ⟨h0, h1, h2⟩ := h
 obtain ⟨k0, k1, k2⟩ := h'
 have p := mM_pos h0.1 h0.2.1 k0.1 k0.2.1 hs e
 have q := (fits_iff (s := s) (y := y) (m := m) (d := d) (y' := y') (m' := m') (d' := d') h0.1 h0.2.1 k0.1 k0.2.1 hs (mM s y m d y' m' d')).2 (by omega)
 have r : ¬ cmp3 (lY (ymi y m + s * (mM s y m d y' m' d' + 1))) (lM (ymi y m + s * (mM s y m d y' m' d' + 1))) d y' m' d' ≠ s := by
  rw [fits_iff (s := s) (y := y) (m := m) (d := d) (y' := y') (m' := m') (d' := d') h0.1 h0.2.1 k0.1 k0.2.1 hs]; omega
 unfold fL fD' fY' fM'
 generalize mM s y m d y' m' d' = M at *
 obtain ⟨a, b, c⟩ := ymi_l (ymi y m + s * M)
 obtain ⟨a2, b2, c2⟩ := ymi_l (ymi y m + s * (M + 1))
 have hin := cD_in (y := lY (ymi y m + s * M)) (d := d) b c h0.2.2.1
 have hle := cD_le (lY (ymi y m + s * M)) (lM (ymi y m + s * M)) d
 have hml := mlen_ge (y := lY (ymi y m + s * M)) b c
 have hnx := mlen_ge (y := lY (ymi y m + s * (M + 1))) b2 c2
 have hr : cD (lY (ymi y m + s * M)) (lM (ymi y m + s * M)) d = d ∨ cD (lY (ymi y m + s * M)) (lM (ymi y m + s * M)) d = mlen (lY (ymi y m + s * M)) (lM (ymi y m + s * M)) ∧ mlen (lY (ymi y m + s * M)) (lM (ymi y m + s * M)) < d := by unfold cD; split <;> omega
 have d31 : d ≤ 31 := by have := (mlen_ge (y := y) h0.1 h0.2.1).2; have := h0.2.2.2; omega
 have d31' : d' ≤ 31 := by have := (mlen_ge (y := y') k0.1 k0.2.1).2; have := k0.2.2.2; omega
 -- where b's month lies
 rcases hs with rfl | rfl
 ·rw [ne_eq, cmp3_p b c k0.1 k0.2.1, a] at q
  rw [ne_eq, Classical.not_not, cmp3_p b2 c2 k0.1 k0.2.1, a2] at r
  have up := dnum_le hin k0 (by rw [a]; omega)
  have lo : dnum y m d ≤ dnum (lY (ymi y m + 1 * M)) (lM (ymi y m + 1 * M)) (cD (lY (ymi y m + 1 * M)) (lM (ymi y m + 1 * M)) d) := by
   refine dnum_le h0 hin ?_
   rw [a]
   by_cases z : M = 0
   ·subst z
    right
    refine ⟨by omega, ?_⟩
    have e0 : ymi y m + 1 * 0 = ymi y m := by omega
    rw [e0, (l_ymi h0.1 h0.2.1).1, (l_ymi h0.1 h0.2.1).2]
    unfold cD; have := h0.2.2.2; split <;> omega
   ·left; omega
  refine ⟨⟨hin, by omega, by omega⟩, by omega, ?_⟩
  by_cases z : ymi y' m' = ymi y m + 1 * M
  ·obtain ⟨e1, e2⟩ := ymi_inj k0.1 k0.2.1 b c (z.trans a.symm)
   rw [← e1, ← e2] at hr hml hin ⊢
   unfold dnum
   have := hin.2.2.1; have := k0.2.2.1
   have := k0.2.2.2
   omega
  ·have z2 : ymi y' m' = ymi y m + 1 * (M + 1) := by omega
   have hd' : d' < d := by omega
   have st : dnum y' m' 1 = dnum (lY (ymi y m + 1 * M)) (lM (ymi y m + 1 * M)) (mlen (lY (ymi y m + 1 * M)) (lM (ymi y m + 1 * M))) + 1 := by
    obtain ⟨e1, e2⟩ := ymi_inj k0.1 k0.2.1 b2 c2 (z2.trans a2.symm)
    generalize lY (ymi y m + 1 * M) = Y at *
    generalize lM (ymi y m + 1 * M) = N at *
    have ea : ymi y' m' = ymi Y N + 1 := by omega
    by_cases n12 : N = 12
    ·have : y' = Y + 1 ∧ m' = 1 := by unfold ymi at ea; omega
     obtain ⟨rfl, rfl⟩ := this
     subst n12
     have j := jan_succ Y
     have m13 := mst_succ (y := Y) (m := 12) (by omega) (by omega)
     rw [show (12 : Int) + 1 = 13 by rfl, mst_end] at m13
     unfold dnum; rw [j, mst_one]; omega
    ·have : y' = Y ∧ m' = N + 1 := by unfold ymi at ea; omega
     obtain ⟨rfl, rfl⟩ := this
     have ms := mst_succ (y := y') b c
     unfold dnum; omega
   have f1 : dnum y' m' d' = dnum y' m' 1 + (d' - 1) := by unfold dnum; omega
   have f2 : ∀ Y N x : Int, dnum Y N (mlen Y N) = dnum Y N x + (mlen Y N - x) := fun Y N x => by unfold dnum; omega
   rw [f1, st, f2 _ _ (cD (lY (ymi y m + 1 * M)) (lM (ymi y m + 1 * M)) d)]
   omega
 ·rw [ne_eq, cmp3_n b c k0.1 k0.2.1, a] at q
  rw [ne_eq, Classical.not_not, cmp3_n b2 c2 k0.1 k0.2.1, a2] at r
  have hi : dnum (lY (ymi y m + -1 * M)) (lM (ymi y m + -1 * M)) (cD (lY (ymi y m + -1 * M)) (lM (ymi y m + -1 * M)) d) ≤ dnum y m d := by
   refine dnum_le hin h0 ?_
   rw [a]
   by_cases z : M = 0
   ·subst z; right; omega
   ·left; omega
  have lo : dnum y' m' d' ≤ dnum (lY (ymi y m + -1 * M)) (lM (ymi y m + -1 * M)) (cD (lY (ymi y m + -1 * M)) (lM (ymi y m + -1 * M)) d) := by
   by_cases z : ymi y' m' = ymi y m + -1 * M
   ·obtain ⟨e1, e2⟩ := ymi_inj k0.1 k0.2.1 b c (z.trans a.symm)
    refine dnum_le k0 hin (.inr ⟨by rw [a]; exact z, ?_⟩)
    have := k0.2.2.2
    rw [← e1, ← e2] at hr ⊢
    omega
   ·refine dnum_le k0 hin (.inl ?_)
    rw [a]; omega
  refine ⟨⟨hin, by omega, by omega⟩, by omega, ?_⟩
  by_cases z : ymi y' m' = ymi y m + -1 * M
  ·obtain ⟨e1, e2⟩ := ymi_inj k0.1 k0.2.1 b c (z.trans a.symm)
   rw [← e1, ← e2] at hr hml hin ⊢
   unfold dnum
   have := hin.2.2.1; have := k0.2.2.1
   omega
  ·have z2 : ymi y' m' = ymi y m + -1 * (M + 1) := by omega
   have hd' : d < d' := by omega
   have st : dnum (lY (ymi y m + -1 * M)) (lM (ymi y m + -1 * M)) 1 = dnum y' m' (mlen y' m') + 1 := by
    generalize lY (ymi y m + -1 * M) = Y at *
    generalize lM (ymi y m + -1 * M) = N at *
    have ea : ymi Y N = ymi y' m' + 1 := by omega
    have q1 := k0.1
    have q2 := k0.2.1
    by_cases n12 : m' = 12
    ·have : Y = y' + 1 ∧ N = 1 := by unfold ymi at ea; omega
     obtain ⟨rfl, rfl⟩ := this
     subst n12
     have j := jan_succ y'
     have m13 := mst_succ (y := y') (m := 12) (by omega) (by omega)
     rw [show (12 : Int) + 1 = 13 by rfl, mst_end] at m13
     unfold dnum; rw [j, mst_one]; omega
    ·have : Y = y' ∧ N = m' + 1 := by unfold ymi at ea; omega
     obtain ⟨rfl, rfl⟩ := this
     have ms := mst_succ (y := Y) q1 q2
     unfold dnum; omega
   have f1 : ∀ x : Int, dnum (lY (ymi y m + -1 * M)) (lM (ymi y m + -1 * M)) x = dnum (lY (ymi y m + -1 * M)) (lM (ymi y m + -1 * M)) 1 + (x - 1) := fun x => by unfold dnum; omega
   have f2 : dnum y' m' (mlen y' m') = dnum y' m' d' + (mlen y' m' - d') := by unfold dnum; omega
   have hb := mlen_ge (y := y') k0.1 k0.2.1
   rw [f1, st, f2]
   omega
end
end Go.Proofs.YthoedmikfpbfnaaGreat
end
section
namespace Go.Proofs.YthoedmikfpbfnaaGreat

abbrev LIM : Int := 9007199254740992000000000
def dtot (d h mi s n : Int) : Int := d * 86400000000000 + h * 3600000000000 + mi * 60000000000 + s * 1000000000 + n
def sg8 (a b c d h mi s n : Int) : Int := if a ≠ 0 then cmpI a 0 else if b ≠ 0 then cmpI b 0 else if c ≠ 0 then cmpI c 0 else if d ≠ 0 then cmpI d 0 else if h ≠ 0 then cmpI h 0 else if mi ≠ 0 then cmpI mi 0 else if s ≠ 0 then cmpI s 0 else cmpI n 0
def pos8 (a b c d h mi s n : Int) : Prop := 0 ≤ a ∧ 0 ≤ b ∧ 0 ≤ c ∧ 0 ≤ d ∧ 0 ≤ h ∧ 0 ≤ mi ∧ 0 ≤ s ∧ 0 ≤ n
def neg8 (a b c d h mi s n : Int) : Prop := a ≤ 0 ∧ b ≤ 0 ∧ c ≤ 0 ∧ d ≤ 0 ∧ h ≤ 0 ∧ mi ≤ 0 ∧ s ≤ 0 ∧ n ≤ 0
instance (a b c d h mi s n : Int) : Decidable (pos8 a b c d h mi s n) := by unfold pos8; infer_instance
instance (a b c d h mi s n : Int) : Decidable (neg8 a b c d h mi s n) := by unfold neg8; infer_instance
def cnt1 (a : Int) : Prop := -4294967295 ≤ a ∧ a ≤ 4294967295
instance (a : Int) : Decidable (cnt1 a) := by unfold cnt1; infer_instance
def uOk (a b c d h mi s n : Int) : Prop := (pos8 a b c d h mi s n ∨ neg8 a b c d h mi s n) ∧ (cnt1 a ∧ cnt1 b ∧ cnt1 c) ∧ -LIM < dtot d h mi s n ∧ dtot d h mi s n < LIM
instance (a b c d h mi s n : Int) : Decidable (uOk a b c d h mi s n) := by unfold uOk; infer_instance
def uEx (a b c d h mi s n : Int) : Prop := uOk a b c d h mi s n ∧ a = 0 ∧ b = 0 ∧ c = 0
instance (a b c d h mi s n : Int) : Decidable (uEx a b c d h mi s n) := by unfold uEx; infer_instance
def ulen (u : Int) : Int := if u = 4 then 86400000000000 else if u = 5 then 3600000000000 else if u = 6 then 60000000000 else if u = 7 then 1000000000 else if u = 8 then 1 else 0
theorem ulen_no {u : Int} (h : u < 4 ∨ 8 < u) : ulen u = 0 := by unfold ulen; split <;> (try split) <;> (try split) <;> (try split) <;> (try split) <;> omega
theorem ulen_pos {u : Int} (h : 4 ≤ u) (k : u ≤ 8) : 1 ≤ ulen u ∧ ulen u ≤ 86400000000000 := by unfold ulen; split <;> (try split) <;> (try split) <;> (try split) <;> (try split) <;> omega
def l4 (u x : Int) : Int := if u = 4 then x.tdiv 86400000000000 else 0
def l5 (u x : Int) : Int := if u = 4 then (x.tmod 86400000000000).tdiv 3600000000000 else if u = 5 then x.tdiv 3600000000000 else 0
def l6 (u x : Int) : Int := if u ≤ 5 then (x.tmod 3600000000000).tdiv 60000000000 else if u = 6 then x.tdiv 60000000000 else 0
def l7 (u x : Int) : Int := if u ≤ 6 then (x.tmod 60000000000).tdiv 1000000000 else if u = 7 then x.tdiv 1000000000 else 0
def l8 (u x : Int) : Int := if u ≤ 7 then x.tmod 1000000000 else x
theorem td (x L : Int) (hL : 0 < L) : x.tdiv L * L + x.tmod L = x ∧ (0 ≤ x → 0 ≤ x.tdiv L ∧ 0 ≤ x.tmod L ∧ x.tmod L < L) ∧ (x ≤ 0 → x.tdiv L ≤ 0 ∧ x.tmod L ≤ 0 ∧ -L < x.tmod L) := by
 have a := Int.tdiv_mul_add_tmod x L
 refine ⟨a, fun h => ⟨Int.tdiv_nonneg h (by omega), Int.tmod_nonneg L h, Int.tmod_lt_of_pos x hL⟩, fun h => ?_⟩
 have b := Int.tdiv_nonneg (a := -x) (b := L) (by omega) (by omega)
 have c := Int.tmod_nonneg (a := -x) L (by omega)
 have d := Int.tmod_lt_of_pos (-x) hL
 rw [Int.neg_tdiv] at b
 rw [Int.neg_tmod] at c d
 omega
theorem lay_tot {u x : Int} (h : 4 ≤ u) (k : u ≤ 8) : dtot (l4 u x) (l5 u x) (l6 u x) (l7 u x) (l8 u x) = x ∧
  (0 ≤ x → pos8 0 0 0 (l4 u x) (l5 u x) (l6 u x) (l7 u x) (l8 u x)) ∧ (x ≤ 0 → neg8 0 0 0 (l4 u x) (l5 u x) (l6 u x) (l7 u x) (l8 u x)) := by
 obtain ⟨e1, e1p, e1n⟩ := td x 86400000000000 (by omega)
 obtain ⟨e2, e2p, e2n⟩ := td x 3600000000000 (by omega)
 obtain ⟨e3, e3p, e3n⟩ := td x 60000000000 (by omega)
 obtain ⟨e4, e4p, e4n⟩ := td x 1000000000 (by omega)
 obtain ⟨f2, f2p, f2n⟩ := td (x.tmod 86400000000000) 3600000000000 (by omega)
 obtain ⟨f3, f3p, f3n⟩ := td (x.tmod 3600000000000) 60000000000 (by omega)
 obtain ⟨f4, f4p, f4n⟩ := td (x.tmod 60000000000) 1000000000 (by omega)
 rw [Int.tmod_tmod_of_dvd x (by decide)] at f2 f3 f4
 have hu : u = 4 ∨ u = 5 ∨ u = 6 ∨ u = 7 ∨ u = 8 := by omega
 refine ⟨?_, fun hx => ?_, fun hx => ?_⟩
 ·clear e1p e1n e2p e2n e3p e3n e4p e4n f2p f2n f3p f3n f4p f4n
  unfold dtot l4 l5 l6 l7 l8
  rcases hu with rfl | rfl | rfl | rfl | rfl <;> simp only [Int.reduceEq, Int.reduceLE, if_true, if_false] <;> omega
 ·have p1 := e1p hx; have p2 := e2p hx; have p3 := e3p hx; have p4 := e4p hx
  have q2 := f2p p1.2.1; have q3 := f3p p2.2.1; have q4 := f4p p3.2.1
  unfold pos8 l4 l5 l6 l7 l8
  rcases hu with rfl | rfl | rfl | rfl | rfl <;> simp only [Int.reduceEq, Int.reduceLE, if_true, if_false] <;> refine ⟨trivial, trivial, trivial, ?_, ?_, ?_, ?_, ?_⟩ <;> first | trivial | omega
 ·have p1 := e1n hx; have p2 := e2n hx; have p3 := e3n hx; have p4 := e4n hx
  have q2 := f2n p1.2.1; have q3 := f3n p2.2.1; have q4 := f4n p3.2.1
  unfold neg8 l4 l5 l6 l7 l8
  rcases hu with rfl | rfl | rfl | rfl | rfl <;> simp only [Int.reduceEq, Int.reduceLE, if_true, if_false] <;> refine ⟨trivial, trivial, trivial, ?_, ?_, ?_, ?_, ?_⟩ <;> first | trivial | omega
def layOk (u x : Int) : Prop := (4 ≤ u ∧ u ≤ 8) ∧ (-LIM < x ∧ x < LIM) ∧ (-9223372036854775808 ≤ x.tdiv (ulen u) ∧ x.tdiv (ulen u) ≤ 9223372036854775807)
instance (u x : Int) : Decidable (layOk u x) := by unfold layOk; infer_instance
theorem lay_ok {u x : Int} (k : layOk u x) : uEx 0 0 0 (l4 u x) (l5 u x) (l6 u x) (l7 u x) (l8 u x) := by
 obtain ⟨⟨k1, k2⟩, ⟨k3, k4⟩, k5⟩ := k
 obtain ⟨a, b, c⟩ := lay_tot (x := x) k1 k2
 refine ⟨⟨?_, ⟨by unfold cnt1; omega, by unfold cnt1; omega, by unfold cnt1; omega⟩, by rw [a]; exact ⟨k3, k4⟩⟩, rfl, rfl, rfl⟩
 by_cases h : 0 ≤ x
 ·exact .inl (b h)
 ·exact .inr (c (by omega))
theorem td2 (x A B k : Int) (hA : A = k * B) (hB : 0 < B) (hk : 0 < k) : -k < (x.tmod A).tdiv B ∧ (x.tmod A).tdiv B < k := by
 have a0 : 0 < A := by rw [hA]; exact Int.mul_pos hk hB
 obtain ⟨e1, e2, e3⟩ := td x A a0
 obtain ⟨f1, f2, f3⟩ := td (x.tmod A) B hB
 have key : ∀ q : Int, q * B < k * B → q < k := fun q h => Int.lt_of_mul_lt_mul_right h (by omega)
 by_cases h : 0 ≤ x
 ·have := e2 h
  have := f2 this.2.1
  have := key ((x.tmod A).tdiv B) (by omega)
  omega
 ·have := e3 (by omega)
  have := f3 this.2.1
  have := key (-((x.tmod A).tdiv B)) (by rw [Int.neg_mul]; omega)
  omega
def incOk (u i : Int) : Prop := 1 ≤ i ∧ (u = 4 ∧ i ≤ 1000000000 ∨ u = 5 ∧ i < 24 ∧ Int.tmod 24 i = 0 ∨ (u = 6 ∨ u = 7) ∧ i < 60 ∧ Int.tmod 60 i = 0 ∨ u = 8 ∧ i < 1000000000 ∧ Int.tmod 1000000000 i = 0)
instance (u i : Int) : Decidable (incOk u i) := by unfold incOk; infer_instance
end Go.Proofs.YthoedmikfpbfnaaGreat
end
