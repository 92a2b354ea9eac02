/-
  Texts joined: Duzm, Upa, Upb, Rnd, Dfr, Due, Mir, Ris, Rat, Duf, Dul, Duh, Cav, Cuv, Cbk, Ext2, Rtm. Each says at its head what it shows.
-/
import Derived.Test.YthoedmikfpbfnaaGreatPTd
section
/-
 Durations: what may be, as the reference reckons it: fields of both signs.
-/
set_option linter.unusedVariables false
set_option linter.unusedSimpArgs false
set_option maxRecDepth 100000
namespace Go.Proofs.YthoedmikfpbfnaaGreat
open Go Go.RowKit Go.Ev

section
variable (a b c d h mi s n : Int)
theorem qBDuzm0 {f0 : FuncId} {w0 : World} {R : Ending → World → Prop} {L : ZL} {c : Cf} {X : Type} {c0 : Cf} {I : X → List SV × List Bk} {Lf : X → ZL} {p : X → Prop} {m : X → Nat} {x : X} (hb : Back ⟨Tryz.prog, f0, [3], w0, R⟩ c0 I Lf p m x) (x' : X) (hp : p x' := by first | (simp only [reduceCtorEq, false_implies, true_implies, true_and, and_true, forall_const]; omega) | (exact b_eq (decide_eq_false (fun z => z.1.elim hP hN)).symm) | (exact absurd (show neg8 a b c d h mi s n by unfold neg8; omega) hN) | (exact absurd (show pos8 a b c d h mi s n by unfold pos8; omega) hP) | omega | (simp only []; omega) | (simp; omega) | assumption | simp_all) (hm : m x' < m x := by first | omega | (simp only []; omega) | (simp; omega)) (hL : Sub (Lf x') L := by exact fun p hp => by first | exact hp | simp_all)
 (h0 : fb (adv Tryz.prog [3] 9999 400 c) = I x' := by kernel_rfl) (hc : loopBack (adv Tryz.prog [3] 9999 400 c) = loopAt c0 := by kernel_rfl) (hs : (loopAt c0).isSome = true := by kernel_rfl) : Ru ⟨Tryz.prog, f0, [3], w0, R⟩ (ZAll L) c := qB hb x' hp hm hL h0 hc hs
set_option maxHeartbeats 3200000 in
theorem zuright_m (i : all64 a b c d h mi s n) (hP : ¬ pos8 a b c d h mi s n) (hN : ¬ neg8 a b c d h mi s n) : Fn 89 [] [duv a b c d h mi s n] (.bool (decide (uOk a b c d h mi s n))) := by
 obtain ⟨i1, i2, i3, i4, i5, i6, i7, i8⟩ := i
 have bt : W128 (dtot d h mi s n) := by unfold I64 at *; unfold W128 dtot; omega
 have bl : W128 9007199254740992000000000 := by unfold W128; omega
 have ut := zutot a b c d h mi s n i4 i5 i6 i7 i8
 obtain ⟨X, hX⟩ : ∃ X : Int, X = ((dtot d h mi s n).natAbs : Int) := ⟨_, rfl⟩
 have bX : Bits 128 X := by rw [hX]; exact bt.bits.abs
 have fa : ∀ p : ZQ, FnZ 130 [(p, dtot d h mi s n)] [zv p] zv X := fun p => by rw [hX]; exact fzabs p _ (bt.bits.fit (by decide))
 have qt := cmpI_lt0 (a := X) (b := 9007199254740992000000000)
 refine fn_of Tryz.func89 rfl fun ww => ?_
 refine st_rowB ent131 (zufields (a) (b) (c) (d) (h) (mi) (s) (n)) (by kernel_rfl) ?_
 refine qG [0,1,3,4,5,6,7,8,47,48,49,50,51,52,53,54,55,56,57,58,59] ?_
 refine st_loop (X := Int × Bool × Bool) (fun x => ([SV.val (Value.agg #[vI64 a,vI64 b,vI64 c,vI64 d,vI64 h,vI64 mi,vI64 s,vI64 n]),SV.ptr 0 0,.any,SV.sl 1 0 8 8,.val (.bool x.2.1),.val (.bool x.2.2),.val (.int .i64 x.1),SV.val (Value.agg #[vI64 a,vI64 b,vI64 c,vI64 d,vI64 h,vI64 mi,vI64 s,vI64 n]),SV.sl 1 0 8 8,.any,.any,.any,.any,.any,.any,.any,.any,.any,.any,.any,.any,.any,.any,.any,.any,.any,.any,.any,.any,.any,.any,.any,.any,.any,.any,.any,.any,.any,.any,.any,.any,.any,.any,.any,.any,.any,.any,svZ,svZ,svZ,svZ,svZ,svZ,svZ,svZ,svZ,svZ,svZ,svZ,svZ],[⟨[SV.val (vI64 a),SV.val (vI64 b),SV.val (vI64 c),SV.val (vI64 d),SV.val (vI64 h),SV.val (vI64 mi),SV.val (vI64 s),SV.val (vI64 n)],51⟩,⟨[SV.val (vI64 a),SV.val (vI64 b),SV.val (vI64 c),SV.val (vI64 d),SV.val (vI64 h),SV.val (vI64 mi),SV.val (vI64 s),SV.val (vI64 n)],2⟩])) (fun _ => _) (fun k => 0 ≤ k.1 ∧ k.1 ≤ 8 ∧ (k.2.1 = false → (0 < k.1 → a ≤ 0) ∧ (1 < k.1 → b ≤ 0) ∧ (2 < k.1 → c ≤ 0) ∧ (3 < k.1 → d ≤ 0) ∧ (4 < k.1 → h ≤ 0) ∧ (5 < k.1 → mi ≤ 0) ∧ (6 < k.1 → s ≤ 0) ∧ (7 < k.1 → n ≤ 0)) ∧ (k.2.2 = false → (0 < k.1 → 0 ≤ a) ∧ (1 < k.1 → 0 ≤ b) ∧ (2 < k.1 → 0 ≤ c) ∧ (3 < k.1 → 0 ≤ d) ∧ (4 < k.1 → 0 ≤ h) ∧ (5 < k.1 → 0 ≤ mi) ∧ (6 < k.1 → 0 ≤ s) ∧ (7 < k.1 → 0 ≤ n))) (fun k => (8 - k.1).toNat) ((0,false,false)) (by kernel_rfl) (by kernel_rfl) Sub.refl (by first | omega | (simp; omega) | assumption | simp_all) (fun x px0 back0 => ?_)
 rcases x with ⟨y0_0, y0_1, y0_2⟩
 simp only at px0
 (have hk0 : y0_0 = 0 ∨ y0_0 = 1 ∨ y0_0 = 2 ∨ y0_0 = 3 ∨ y0_0 = 4 ∨ y0_0 = 5 ∨ y0_0 = 6 ∨ y0_0 = 7 ∨ y0_0 = 8 := (by omega); rcases hk0 with rfl | rfl | rfl | rfl | rfl | rfl | rfl | rfl | rfl <;> rcases y0_1 with _ | _ <;> rcases y0_2 with _ | _ <;> simp only [reduceCtorEq, false_implies, true_implies, true_and, and_true, forall_const] at px0)
 ·have _hh := True.intro
  by_cases k21 : a > 0
  ·refine qV 21 (decide_eq_true k21) ?_
   refine qN 29 (decide (a < 0)) ?_
   by_cases k38 : a > 4294967295
   ·refine qV 38 (decide_eq_true k38) ?_
    exact st_retv Tryz.func89 (show Value.bool (false) = _ by (exact b_eq (decide_eq_false (fun z => z.1.elim hP hN)).symm)) (by kernel_rfl)
   ·refine qV 38 (decide_eq_false k38) ?_
    refine qN 44 (decide (a < -4294967295)) ?_
    refine qI 14 (0 + 1) ?_
    refine qG [0,1,2,3,4,5,6,7,8,47,48,49,50,51,52,53,54,55,56,57,58,59] ?_
    exact qBDuzm0 back0 ((0 + 1, true, false))
  ·refine qV 21 (decide_eq_false k21) ?_
   by_cases k29 : a < 0
   ·refine qV 29 (decide_eq_true k29) ?_
    refine qN 38 (decide (a > 4294967295)) ?_
    by_cases k44 : a < -4294967295
    ·refine qV 44 (decide_eq_true k44) ?_
     exact st_retv Tryz.func89 (show Value.bool (false) = _ by (exact b_eq (decide_eq_false (fun z => z.1.elim hP hN)).symm)) (by kernel_rfl)
    ·refine qV 44 (decide_eq_false k44) ?_
     refine qI 14 (0 + 1) ?_
     refine qG [0,1,2,3,4,5,6,7,8,47,48,49,50,51,52,53,54,55,56,57,58,59] ?_
     exact qBDuzm0 back0 ((0 + 1, false, true))
   ·refine qV 29 (decide_eq_false k29) ?_
    refine qN 38 (decide (a > 4294967295)) ?_
    refine qN 44 (decide (a < -4294967295)) ?_
    refine qI 14 (0 + 1) ?_
    refine qG [0,1,2,3,4,5,6,7,8,47,48,49,50,51,52,53,54,55,56,57,58,59] ?_
    exact qBDuzm0 back0 ((0 + 1, false, false))
 ·have _hh := True.intro
  by_cases k21 : a > 0
  ·refine qV 21 (decide_eq_true k21) ?_
   by_cases k38 : a > 4294967295
   ·refine qV 38 (decide_eq_true k38) ?_
    exact st_retv Tryz.func89 (show Value.bool (false) = _ by (exact b_eq (decide_eq_false (fun z => z.1.elim hP hN)).symm)) (by kernel_rfl)
   ·refine qV 38 (decide_eq_false k38) ?_
    refine qN 44 (decide (a < -4294967295)) ?_
    refine qI 14 (0 + 1) ?_
    refine qG [0,1,2,3,4,5,6,7,8,47,48,49,50,51,52,53,54,55,56,57,58,59] ?_
    exact qBDuzm0 back0 ((0 + 1, true, true))
  ·refine qV 21 (decide_eq_false k21) ?_
   refine qN 38 (decide (a > 4294967295)) ?_
   by_cases k44 : a < -4294967295
   ·refine qV 44 (decide_eq_true k44) ?_
    exact st_retv Tryz.func89 (show Value.bool (false) = _ by (exact b_eq (decide_eq_false (fun z => z.1.elim hP hN)).symm)) (by kernel_rfl)
   ·refine qV 44 (decide_eq_false k44) ?_
    refine qI 14 (0 + 1) ?_
    refine qG [0,1,2,3,4,5,6,7,8,47,48,49,50,51,52,53,54,55,56,57,58,59] ?_
    exact qBDuzm0 back0 ((0 + 1, false, true))
 ·have _hh := True.intro
  by_cases k29 : a < 0
  ·refine qV 29 (decide_eq_true k29) ?_
   refine qN 38 (decide (a > 4294967295)) ?_
   by_cases k44 : a < -4294967295
   ·refine qV 44 (decide_eq_true k44) ?_
    exact st_retv Tryz.func89 (show Value.bool (false) = _ by (exact b_eq (decide_eq_false (fun z => z.1.elim hP hN)).symm)) (by kernel_rfl)
   ·refine qV 44 (decide_eq_false k44) ?_
    refine qI 14 (0 + 1) ?_
    refine qG [0,1,2,3,4,5,6,7,8,47,48,49,50,51,52,53,54,55,56,57,58,59] ?_
    exact qBDuzm0 back0 ((0 + 1, true, true))
  ·refine qV 29 (decide_eq_false k29) ?_
   by_cases k38 : a > 4294967295
   ·refine qV 38 (decide_eq_true k38) ?_
    exact st_retv Tryz.func89 (show Value.bool (false) = _ by (exact b_eq (decide_eq_false (fun z => z.1.elim hP hN)).symm)) (by kernel_rfl)
   ·refine qV 38 (decide_eq_false k38) ?_
    refine qN 44 (decide (a < -4294967295)) ?_
    refine qI 14 (0 + 1) ?_
    refine qG [0,1,2,3,4,5,6,7,8,47,48,49,50,51,52,53,54,55,56,57,58,59] ?_
    exact qBDuzm0 back0 ((0 + 1, true, false))
 ·have _hh := True.intro
  by_cases k38 : a > 4294967295
  ·refine qV 38 (decide_eq_true k38) ?_
   exact st_retv Tryz.func89 (show Value.bool (false) = _ by (exact b_eq (decide_eq_false (fun z => z.1.elim hP hN)).symm)) (by kernel_rfl)
  ·refine qV 38 (decide_eq_false k38) ?_
   by_cases k44 : a < -4294967295
   ·refine qV 44 (decide_eq_true k44) ?_
    exact st_retv Tryz.func89 (show Value.bool (false) = _ by (exact b_eq (decide_eq_false (fun z => z.1.elim hP hN)).symm)) (by kernel_rfl)
   ·refine qV 44 (decide_eq_false k44) ?_
    refine qI 14 (0 + 1) ?_
    refine qG [0,1,2,3,4,5,6,7,8,47,48,49,50,51,52,53,54,55,56,57,58,59] ?_
    exact qBDuzm0 back0 ((0 + 1, true, true))
 ·have _hh := True.intro
  by_cases k21 : b > 0
  ·refine qV 21 (decide_eq_true k21) ?_
   refine qN 29 (decide (b < 0)) ?_
   by_cases k38 : b > 4294967295
   ·refine qV 38 (decide_eq_true k38) ?_
    exact st_retv Tryz.func89 (show Value.bool (false) = _ by (exact b_eq (decide_eq_false (fun z => z.1.elim hP hN)).symm)) (by kernel_rfl)
   ·refine qV 38 (decide_eq_false k38) ?_
    refine qN 44 (decide (b < -4294967295)) ?_
    refine qI 14 (1 + 1) ?_
    refine qG [0,1,2,3,4,5,6,7,8,47,48,49,50,51,52,53,54,55,56,57,58,59] ?_
    exact qBDuzm0 back0 ((1 + 1, true, false))
  ·refine qV 21 (decide_eq_false k21) ?_
   by_cases k29 : b < 0
   ·refine qV 29 (decide_eq_true k29) ?_
    refine qN 38 (decide (b > 4294967295)) ?_
    by_cases k44 : b < -4294967295
    ·refine qV 44 (decide_eq_true k44) ?_
     exact st_retv Tryz.func89 (show Value.bool (false) = _ by (exact b_eq (decide_eq_false (fun z => z.1.elim hP hN)).symm)) (by kernel_rfl)
    ·refine qV 44 (decide_eq_false k44) ?_
     refine qI 14 (1 + 1) ?_
     refine qG [0,1,2,3,4,5,6,7,8,47,48,49,50,51,52,53,54,55,56,57,58,59] ?_
     exact qBDuzm0 back0 ((1 + 1, false, true))
   ·refine qV 29 (decide_eq_false k29) ?_
    refine qN 38 (decide (b > 4294967295)) ?_
    refine qN 44 (decide (b < -4294967295)) ?_
    refine qI 14 (1 + 1) ?_
    refine qG [0,1,2,3,4,5,6,7,8,47,48,49,50,51,52,53,54,55,56,57,58,59] ?_
    exact qBDuzm0 back0 ((1 + 1, false, false))
 ·have _hh := True.intro
  by_cases k21 : b > 0
  ·refine qV 21 (decide_eq_true k21) ?_
   by_cases k38 : b > 4294967295
   ·refine qV 38 (decide_eq_true k38) ?_
    exact st_retv Tryz.func89 (show Value.bool (false) = _ by (exact b_eq (decide_eq_false (fun z => z.1.elim hP hN)).symm)) (by kernel_rfl)
   ·refine qV 38 (decide_eq_false k38) ?_
    refine qN 44 (decide (b < -4294967295)) ?_
    refine qI 14 (1 + 1) ?_
    refine qG [0,1,2,3,4,5,6,7,8,47,48,49,50,51,52,53,54,55,56,57,58,59] ?_
    exact qBDuzm0 back0 ((1 + 1, true, true))
  ·refine qV 21 (decide_eq_false k21) ?_
   refine qN 38 (decide (b > 4294967295)) ?_
   by_cases k44 : b < -4294967295
   ·refine qV 44 (decide_eq_true k44) ?_
    exact st_retv Tryz.func89 (show Value.bool (false) = _ by (exact b_eq (decide_eq_false (fun z => z.1.elim hP hN)).symm)) (by kernel_rfl)
   ·refine qV 44 (decide_eq_false k44) ?_
    refine qI 14 (1 + 1) ?_
    refine qG [0,1,2,3,4,5,6,7,8,47,48,49,50,51,52,53,54,55,56,57,58,59] ?_
    exact qBDuzm0 back0 ((1 + 1, false, true))
 ·have _hh := True.intro
  by_cases k29 : b < 0
  ·refine qV 29 (decide_eq_true k29) ?_
   refine qN 38 (decide (b > 4294967295)) ?_
   by_cases k44 : b < -4294967295
   ·refine qV 44 (decide_eq_true k44) ?_
    exact st_retv Tryz.func89 (show Value.bool (false) = _ by (exact b_eq (decide_eq_false (fun z => z.1.elim hP hN)).symm)) (by kernel_rfl)
   ·refine qV 44 (decide_eq_false k44) ?_
    refine qI 14 (1 + 1) ?_
    refine qG [0,1,2,3,4,5,6,7,8,47,48,49,50,51,52,53,54,55,56,57,58,59] ?_
    exact qBDuzm0 back0 ((1 + 1, true, true))
  ·refine qV 29 (decide_eq_false k29) ?_
   by_cases k38 : b > 4294967295
   ·refine qV 38 (decide_eq_true k38) ?_
    exact st_retv Tryz.func89 (show Value.bool (false) = _ by (exact b_eq (decide_eq_false (fun z => z.1.elim hP hN)).symm)) (by kernel_rfl)
   ·refine qV 38 (decide_eq_false k38) ?_
    refine qN 44 (decide (b < -4294967295)) ?_
    refine qI 14 (1 + 1) ?_
    refine qG [0,1,2,3,4,5,6,7,8,47,48,49,50,51,52,53,54,55,56,57,58,59] ?_
    exact qBDuzm0 back0 ((1 + 1, true, false))
 ·have _hh := True.intro
  by_cases k38 : b > 4294967295
  ·refine qV 38 (decide_eq_true k38) ?_
   exact st_retv Tryz.func89 (show Value.bool (false) = _ by (exact b_eq (decide_eq_false (fun z => z.1.elim hP hN)).symm)) (by kernel_rfl)
  ·refine qV 38 (decide_eq_false k38) ?_
   by_cases k44 : b < -4294967295
   ·refine qV 44 (decide_eq_true k44) ?_
    exact st_retv Tryz.func89 (show Value.bool (false) = _ by (exact b_eq (decide_eq_false (fun z => z.1.elim hP hN)).symm)) (by kernel_rfl)
   ·refine qV 44 (decide_eq_false k44) ?_
    refine qI 14 (1 + 1) ?_
    refine qG [0,1,2,3,4,5,6,7,8,47,48,49,50,51,52,53,54,55,56,57,58,59] ?_
    exact qBDuzm0 back0 ((1 + 1, true, true))
 ·have _hh := True.intro
  by_cases k21 : c > 0
  ·refine qV 21 (decide_eq_true k21) ?_
   refine qN 29 (decide (c < 0)) ?_
   by_cases k38 : c > 4294967295
   ·refine qV 38 (decide_eq_true k38) ?_
    exact st_retv Tryz.func89 (show Value.bool (false) = _ by (exact b_eq (decide_eq_false (fun z => z.1.elim hP hN)).symm)) (by kernel_rfl)
   ·refine qV 38 (decide_eq_false k38) ?_
    refine qN 44 (decide (c < -4294967295)) ?_
    refine qI 14 (2 + 1) ?_
    refine qG [0,1,2,3,4,5,6,7,8,47,48,49,50,51,52,53,54,55,56,57,58,59] ?_
    exact qBDuzm0 back0 ((2 + 1, true, false))
  ·refine qV 21 (decide_eq_false k21) ?_
   by_cases k29 : c < 0
   ·refine qV 29 (decide_eq_true k29) ?_
    refine qN 38 (decide (c > 4294967295)) ?_
    by_cases k44 : c < -4294967295
    ·refine qV 44 (decide_eq_true k44) ?_
     exact st_retv Tryz.func89 (show Value.bool (false) = _ by (exact b_eq (decide_eq_false (fun z => z.1.elim hP hN)).symm)) (by kernel_rfl)
    ·refine qV 44 (decide_eq_false k44) ?_
     refine qI 14 (2 + 1) ?_
     refine qG [0,1,2,3,4,5,6,7,8,47,48,49,50,51,52,53,54,55,56,57,58,59] ?_
     exact qBDuzm0 back0 ((2 + 1, false, true))
   ·refine qV 29 (decide_eq_false k29) ?_
    refine qN 38 (decide (c > 4294967295)) ?_
    refine qN 44 (decide (c < -4294967295)) ?_
    refine qI 14 (2 + 1) ?_
    refine qG [0,1,2,3,4,5,6,7,8,47,48,49,50,51,52,53,54,55,56,57,58,59] ?_
    exact qBDuzm0 back0 ((2 + 1, false, false))
 ·have _hh := True.intro
  by_cases k21 : c > 0
  ·refine qV 21 (decide_eq_true k21) ?_
   by_cases k38 : c > 4294967295
   ·refine qV 38 (decide_eq_true k38) ?_
    exact st_retv Tryz.func89 (show Value.bool (false) = _ by (exact b_eq (decide_eq_false (fun z => z.1.elim hP hN)).symm)) (by kernel_rfl)
   ·refine qV 38 (decide_eq_false k38) ?_
    refine qN 44 (decide (c < -4294967295)) ?_
    refine qI 14 (2 + 1) ?_
    refine qG [0,1,2,3,4,5,6,7,8,47,48,49,50,51,52,53,54,55,56,57,58,59] ?_
    exact qBDuzm0 back0 ((2 + 1, true, true))
  ·refine qV 21 (decide_eq_false k21) ?_
   refine qN 38 (decide (c > 4294967295)) ?_
   by_cases k44 : c < -4294967295
   ·refine qV 44 (decide_eq_true k44) ?_
    exact st_retv Tryz.func89 (show Value.bool (false) = _ by (exact b_eq (decide_eq_false (fun z => z.1.elim hP hN)).symm)) (by kernel_rfl)
   ·refine qV 44 (decide_eq_false k44) ?_
    refine qI 14 (2 + 1) ?_
    refine qG [0,1,2,3,4,5,6,7,8,47,48,49,50,51,52,53,54,55,56,57,58,59] ?_
    exact qBDuzm0 back0 ((2 + 1, false, true))
 ·have _hh := True.intro
  by_cases k29 : c < 0
  ·refine qV 29 (decide_eq_true k29) ?_
   refine qN 38 (decide (c > 4294967295)) ?_
   by_cases k44 : c < -4294967295
   ·refine qV 44 (decide_eq_true k44) ?_
    exact st_retv Tryz.func89 (show Value.bool (false) = _ by (exact b_eq (decide_eq_false (fun z => z.1.elim hP hN)).symm)) (by kernel_rfl)
   ·refine qV 44 (decide_eq_false k44) ?_
    refine qI 14 (2 + 1) ?_
    refine qG [0,1,2,3,4,5,6,7,8,47,48,49,50,51,52,53,54,55,56,57,58,59] ?_
    exact qBDuzm0 back0 ((2 + 1, true, true))
  ·refine qV 29 (decide_eq_false k29) ?_
   by_cases k38 : c > 4294967295
   ·refine qV 38 (decide_eq_true k38) ?_
    exact st_retv Tryz.func89 (show Value.bool (false) = _ by (exact b_eq (decide_eq_false (fun z => z.1.elim hP hN)).symm)) (by kernel_rfl)
   ·refine qV 38 (decide_eq_false k38) ?_
    refine qN 44 (decide (c < -4294967295)) ?_
    refine qI 14 (2 + 1) ?_
    refine qG [0,1,2,3,4,5,6,7,8,47,48,49,50,51,52,53,54,55,56,57,58,59] ?_
    exact qBDuzm0 back0 ((2 + 1, true, false))
 ·have _hh := True.intro
  by_cases k38 : c > 4294967295
  ·refine qV 38 (decide_eq_true k38) ?_
   exact st_retv Tryz.func89 (show Value.bool (false) = _ by (exact b_eq (decide_eq_false (fun z => z.1.elim hP hN)).symm)) (by kernel_rfl)
  ·refine qV 38 (decide_eq_false k38) ?_
   by_cases k44 : c < -4294967295
   ·refine qV 44 (decide_eq_true k44) ?_
    exact st_retv Tryz.func89 (show Value.bool (false) = _ by (exact b_eq (decide_eq_false (fun z => z.1.elim hP hN)).symm)) (by kernel_rfl)
   ·refine qV 44 (decide_eq_false k44) ?_
    refine qI 14 (2 + 1) ?_
    refine qG [0,1,2,3,4,5,6,7,8,47,48,49,50,51,52,53,54,55,56,57,58,59] ?_
    exact qBDuzm0 back0 ((2 + 1, true, true))
 ·have _hh := True.intro
  by_cases k21 : d > 0
  ·refine qV 21 (decide_eq_true k21) ?_
   refine qN 29 (decide (d < 0)) ?_
   refine qI 14 (3 + 1) ?_
   refine qG [0,1,2,3,4,5,6,7,8,47,48,49,50,51,52,53,54,55,56,57,58,59] ?_
   exact qBDuzm0 back0 ((3 + 1, true, false))
  ·refine qV 21 (decide_eq_false k21) ?_
   by_cases k29 : d < 0
   ·refine qV 29 (decide_eq_true k29) ?_
    refine qI 14 (3 + 1) ?_
    refine qG [0,1,2,3,4,5,6,7,8,47,48,49,50,51,52,53,54,55,56,57,58,59] ?_
    exact qBDuzm0 back0 ((3 + 1, false, true))
   ·refine qV 29 (decide_eq_false k29) ?_
    refine qI 14 (3 + 1) ?_
    refine qG [0,1,2,3,4,5,6,7,8,47,48,49,50,51,52,53,54,55,56,57,58,59] ?_
    exact qBDuzm0 back0 ((3 + 1, false, false))
 ·have _hh := True.intro
  by_cases k21 : d > 0
  ·refine qV 21 (decide_eq_true k21) ?_
   refine qI 14 (3 + 1) ?_
   refine qG [0,1,2,3,4,5,6,7,8,47,48,49,50,51,52,53,54,55,56,57,58,59] ?_
   exact qBDuzm0 back0 ((3 + 1, true, true))
  ·refine qV 21 (decide_eq_false k21) ?_
   refine qI 14 (3 + 1) ?_
   refine qG [0,1,2,3,4,5,6,7,8,47,48,49,50,51,52,53,54,55,56,57,58,59] ?_
   exact qBDuzm0 back0 ((3 + 1, false, true))
 ·have _hh := True.intro
  by_cases k29 : d < 0
  ·refine qV 29 (decide_eq_true k29) ?_
   refine qI 14 (3 + 1) ?_
   refine qG [0,1,2,3,4,5,6,7,8,47,48,49,50,51,52,53,54,55,56,57,58,59] ?_
   exact qBDuzm0 back0 ((3 + 1, true, true))
  ·refine qV 29 (decide_eq_false k29) ?_
   refine qI 14 (3 + 1) ?_
   refine qG [0,1,2,3,4,5,6,7,8,47,48,49,50,51,52,53,54,55,56,57,58,59] ?_
   exact qBDuzm0 back0 ((3 + 1, true, false))
 ·have _hh := True.intro
  refine qI 14 (3 + 1) ?_
  refine qG [0,1,2,3,4,5,6,7,8,47,48,49,50,51,52,53,54,55,56,57,58,59] ?_
  exact qBDuzm0 back0 ((3 + 1, true, true))
 ·have _hh := True.intro
  by_cases k21 : h > 0
  ·refine qV 21 (decide_eq_true k21) ?_
   refine qN 29 (decide (h < 0)) ?_
   refine qI 14 (4 + 1) ?_
   refine qG [0,1,2,3,4,5,6,7,8,47,48,49,50,51,52,53,54,55,56,57,58,59] ?_
   exact qBDuzm0 back0 ((4 + 1, true, false))
  ·refine qV 21 (decide_eq_false k21) ?_
   by_cases k29 : h < 0
   ·refine qV 29 (decide_eq_true k29) ?_
    refine qI 14 (4 + 1) ?_
    refine qG [0,1,2,3,4,5,6,7,8,47,48,49,50,51,52,53,54,55,56,57,58,59] ?_
    exact qBDuzm0 back0 ((4 + 1, false, true))
   ·refine qV 29 (decide_eq_false k29) ?_
    refine qI 14 (4 + 1) ?_
    refine qG [0,1,2,3,4,5,6,7,8,47,48,49,50,51,52,53,54,55,56,57,58,59] ?_
    exact qBDuzm0 back0 ((4 + 1, false, false))
 ·have _hh := True.intro
  by_cases k21 : h > 0
  ·refine qV 21 (decide_eq_true k21) ?_
   refine qI 14 (4 + 1) ?_
   refine qG [0,1,2,3,4,5,6,7,8,47,48,49,50,51,52,53,54,55,56,57,58,59] ?_
   exact qBDuzm0 back0 ((4 + 1, true, true))
  ·refine qV 21 (decide_eq_false k21) ?_
   refine qI 14 (4 + 1) ?_
   refine qG [0,1,2,3,4,5,6,7,8,47,48,49,50,51,52,53,54,55,56,57,58,59] ?_
   exact qBDuzm0 back0 ((4 + 1, false, true))
 ·have _hh := True.intro
  by_cases k29 : h < 0
  ·refine qV 29 (decide_eq_true k29) ?_
   refine qI 14 (4 + 1) ?_
   refine qG [0,1,2,3,4,5,6,7,8,47,48,49,50,51,52,53,54,55,56,57,58,59] ?_
   exact qBDuzm0 back0 ((4 + 1, true, true))
  ·refine qV 29 (decide_eq_false k29) ?_
   refine qI 14 (4 + 1) ?_
   refine qG [0,1,2,3,4,5,6,7,8,47,48,49,50,51,52,53,54,55,56,57,58,59] ?_
   exact qBDuzm0 back0 ((4 + 1, true, false))
 ·have _hh := True.intro
  refine qI 14 (4 + 1) ?_
  refine qG [0,1,2,3,4,5,6,7,8,47,48,49,50,51,52,53,54,55,56,57,58,59] ?_
  exact qBDuzm0 back0 ((4 + 1, true, true))
 ·have _hh := True.intro
  by_cases k21 : mi > 0
  ·refine qV 21 (decide_eq_true k21) ?_
   refine qN 29 (decide (mi < 0)) ?_
   refine qI 14 (5 + 1) ?_
   refine qG [0,1,2,3,4,5,6,7,8,47,48,49,50,51,52,53,54,55,56,57,58,59] ?_
   exact qBDuzm0 back0 ((5 + 1, true, false))
  ·refine qV 21 (decide_eq_false k21) ?_
   by_cases k29 : mi < 0
   ·refine qV 29 (decide_eq_true k29) ?_
    refine qI 14 (5 + 1) ?_
    refine qG [0,1,2,3,4,5,6,7,8,47,48,49,50,51,52,53,54,55,56,57,58,59] ?_
    exact qBDuzm0 back0 ((5 + 1, false, true))
   ·refine qV 29 (decide_eq_false k29) ?_
    refine qI 14 (5 + 1) ?_
    refine qG [0,1,2,3,4,5,6,7,8,47,48,49,50,51,52,53,54,55,56,57,58,59] ?_
    exact qBDuzm0 back0 ((5 + 1, false, false))
 ·have _hh := True.intro
  by_cases k21 : mi > 0
  ·refine qV 21 (decide_eq_true k21) ?_
   refine qI 14 (5 + 1) ?_
   refine qG [0,1,2,3,4,5,6,7,8,47,48,49,50,51,52,53,54,55,56,57,58,59] ?_
   exact qBDuzm0 back0 ((5 + 1, true, true))
  ·refine qV 21 (decide_eq_false k21) ?_
   refine qI 14 (5 + 1) ?_
   refine qG [0,1,2,3,4,5,6,7,8,47,48,49,50,51,52,53,54,55,56,57,58,59] ?_
   exact qBDuzm0 back0 ((5 + 1, false, true))
 ·have _hh := True.intro
  by_cases k29 : mi < 0
  ·refine qV 29 (decide_eq_true k29) ?_
   refine qI 14 (5 + 1) ?_
   refine qG [0,1,2,3,4,5,6,7,8,47,48,49,50,51,52,53,54,55,56,57,58,59] ?_
   exact qBDuzm0 back0 ((5 + 1, true, true))
  ·refine qV 29 (decide_eq_false k29) ?_
   refine qI 14 (5 + 1) ?_
   refine qG [0,1,2,3,4,5,6,7,8,47,48,49,50,51,52,53,54,55,56,57,58,59] ?_
   exact qBDuzm0 back0 ((5 + 1, true, false))
 ·have _hh := True.intro
  refine qI 14 (5 + 1) ?_
  refine qG [0,1,2,3,4,5,6,7,8,47,48,49,50,51,52,53,54,55,56,57,58,59] ?_
  exact qBDuzm0 back0 ((5 + 1, true, true))
 ·have _hh := True.intro
  by_cases k21 : s > 0
  ·refine qV 21 (decide_eq_true k21) ?_
   refine qN 29 (decide (s < 0)) ?_
   refine qI 14 (6 + 1) ?_
   refine qG [0,1,2,3,4,5,6,7,8,47,48,49,50,51,52,53,54,55,56,57,58,59] ?_
   exact qBDuzm0 back0 ((6 + 1, true, false))
  ·refine qV 21 (decide_eq_false k21) ?_
   by_cases k29 : s < 0
   ·refine qV 29 (decide_eq_true k29) ?_
    refine qI 14 (6 + 1) ?_
    refine qG [0,1,2,3,4,5,6,7,8,47,48,49,50,51,52,53,54,55,56,57,58,59] ?_
    exact qBDuzm0 back0 ((6 + 1, false, true))
   ·refine qV 29 (decide_eq_false k29) ?_
    refine qI 14 (6 + 1) ?_
    refine qG [0,1,2,3,4,5,6,7,8,47,48,49,50,51,52,53,54,55,56,57,58,59] ?_
    exact qBDuzm0 back0 ((6 + 1, false, false))
 ·have _hh := True.intro
  by_cases k21 : s > 0
  ·refine qV 21 (decide_eq_true k21) ?_
   refine qI 14 (6 + 1) ?_
   refine qG [0,1,2,3,4,5,6,7,8,47,48,49,50,51,52,53,54,55,56,57,58,59] ?_
   exact qBDuzm0 back0 ((6 + 1, true, true))
  ·refine qV 21 (decide_eq_false k21) ?_
   refine qI 14 (6 + 1) ?_
   refine qG [0,1,2,3,4,5,6,7,8,47,48,49,50,51,52,53,54,55,56,57,58,59] ?_
   exact qBDuzm0 back0 ((6 + 1, false, true))
 ·have _hh := True.intro
  by_cases k29 : s < 0
  ·refine qV 29 (decide_eq_true k29) ?_
   refine qI 14 (6 + 1) ?_
   refine qG [0,1,2,3,4,5,6,7,8,47,48,49,50,51,52,53,54,55,56,57,58,59] ?_
   exact qBDuzm0 back0 ((6 + 1, true, true))
  ·refine qV 29 (decide_eq_false k29) ?_
   refine qI 14 (6 + 1) ?_
   refine qG [0,1,2,3,4,5,6,7,8,47,48,49,50,51,52,53,54,55,56,57,58,59] ?_
   exact qBDuzm0 back0 ((6 + 1, true, false))
 ·have _hh := True.intro
  refine qI 14 (6 + 1) ?_
  refine qG [0,1,2,3,4,5,6,7,8,47,48,49,50,51,52,53,54,55,56,57,58,59] ?_
  exact qBDuzm0 back0 ((6 + 1, true, true))
 ·have _hh := True.intro
  by_cases k21 : n > 0
  ·refine qV 21 (decide_eq_true k21) ?_
   refine qN 29 (decide (n < 0)) ?_
   refine qI 14 (7 + 1) ?_
   refine qG [0,1,2,3,4,5,6,7,8,47,48,49,50,51,52,53,54,55,56,57,58,59] ?_
   exact qBDuzm0 back0 ((7 + 1, true, false))
  ·refine qV 21 (decide_eq_false k21) ?_
   by_cases k29 : n < 0
   ·refine qV 29 (decide_eq_true k29) ?_
    refine qI 14 (7 + 1) ?_
    refine qG [0,1,2,3,4,5,6,7,8,47,48,49,50,51,52,53,54,55,56,57,58,59] ?_
    exact qBDuzm0 back0 ((7 + 1, false, true))
   ·refine qV 29 (decide_eq_false k29) ?_
    refine qI 14 (7 + 1) ?_
    refine qG [0,1,2,3,4,5,6,7,8,47,48,49,50,51,52,53,54,55,56,57,58,59] ?_
    exact qBDuzm0 back0 ((7 + 1, false, false))
 ·have _hh := True.intro
  by_cases k21 : n > 0
  ·refine qV 21 (decide_eq_true k21) ?_
   refine qI 14 (7 + 1) ?_
   refine qG [0,1,2,3,4,5,6,7,8,47,48,49,50,51,52,53,54,55,56,57,58,59] ?_
   exact qBDuzm0 back0 ((7 + 1, true, true))
  ·refine qV 21 (decide_eq_false k21) ?_
   refine qI 14 (7 + 1) ?_
   refine qG [0,1,2,3,4,5,6,7,8,47,48,49,50,51,52,53,54,55,56,57,58,59] ?_
   exact qBDuzm0 back0 ((7 + 1, false, true))
 ·have _hh := True.intro
  by_cases k29 : n < 0
  ·refine qV 29 (decide_eq_true k29) ?_
   refine qI 14 (7 + 1) ?_
   refine qG [0,1,2,3,4,5,6,7,8,47,48,49,50,51,52,53,54,55,56,57,58,59] ?_
   exact qBDuzm0 back0 ((7 + 1, true, true))
  ·refine qV 29 (decide_eq_false k29) ?_
   refine qI 14 (7 + 1) ?_
   refine qG [0,1,2,3,4,5,6,7,8,47,48,49,50,51,52,53,54,55,56,57,58,59] ?_
   exact qBDuzm0 back0 ((7 + 1, true, false))
 ·have _hh := True.intro
  refine qI 14 (7 + 1) ?_
  refine qG [0,1,2,3,4,5,6,7,8,47,48,49,50,51,52,53,54,55,56,57,58,59] ?_
  exact qBDuzm0 back0 ((7 + 1, true, true))
 ·have _hh := True.intro
  refine qZ ent132 (ut) fun zq2 => ?_
  refine st_g ent130 (fa (zq2)) (subC 0 rfl sub0) (by kernel_rfl) (fun zq3 => ?_)
  refine qZ ent133 (zulimit) fun zq4 => ?_
  refine st_fn ent86 (fzcmp (zq3) (zq4) (X) (9007199254740992000000000) (by exact Bits.fit bX (by decide)) (by exact Bits.fit bl.bits (by decide))) (subC 1 rfl (subC 0 rfl sub0)) (by kernel_rfl) ?_
  exact st_retv Tryz.func89 (show Value.bool (decide (cmpI X 9007199254740992000000000 < 0)) = _ by (exact absurd (show neg8 a b c d h mi s n by unfold neg8; omega) hN)) (by kernel_rfl)
 ·have _hh := True.intro
  refine qZ ent132 (ut) fun zq2 => ?_
  refine st_g ent130 (fa (zq2)) (subC 0 rfl sub0) (by kernel_rfl) (fun zq3 => ?_)
  refine qZ ent133 (zulimit) fun zq4 => ?_
  refine st_fn ent86 (fzcmp (zq3) (zq4) (X) (9007199254740992000000000) (by exact Bits.fit bX (by decide)) (by exact Bits.fit bl.bits (by decide))) (subC 1 rfl (subC 0 rfl sub0)) (by kernel_rfl) ?_
  exact st_retv Tryz.func89 (show Value.bool (decide (cmpI X 9007199254740992000000000 < 0)) = _ by (exact absurd (show neg8 a b c d h mi s n by unfold neg8; omega) hN)) (by kernel_rfl)
 ·have _hh := True.intro
  refine qZ ent132 (ut) fun zq2 => ?_
  refine st_g ent130 (fa (zq2)) (subC 0 rfl sub0) (by kernel_rfl) (fun zq3 => ?_)
  refine qZ ent133 (zulimit) fun zq4 => ?_
  refine st_fn ent86 (fzcmp (zq3) (zq4) (X) (9007199254740992000000000) (by exact Bits.fit bX (by decide)) (by exact Bits.fit bl.bits (by decide))) (subC 1 rfl (subC 0 rfl sub0)) (by kernel_rfl) ?_
  exact st_retv Tryz.func89 (show Value.bool (decide (cmpI X 9007199254740992000000000 < 0)) = _ by (exact absurd (show pos8 a b c d h mi s n by unfold pos8; omega) hP)) (by kernel_rfl)
 ·have _hh := True.intro
  exact st_retv Tryz.func89 (show Value.bool (false) = _ by (exact b_eq (decide_eq_false (fun z => z.1.elim hP hN)).symm)) (by kernel_rfl)
end
end Go.Proofs.YthoedmikfpbfnaaGreat
end
section
/-
 round.up: the closures.
-/
set_option linter.unusedVariables false
set_option maxRecDepth 100000
namespace Go.Proofs.YthoedmikfpbfnaaGreat
open Go Go.RowKit Go.Ev

abbrev pv (b : Bool) (x : Int) (e : Bool) : Value := .agg #[.bool b, .int .i64 x, .bool e]
def PlaceAt (k : Nat) (b : Bool) (x : Int) (e : Bool) (w : World) : Prop := w.heap[k]? = some (.cells #[.bool b, .int .i64 x, .bool e] 157 (0, 0))
def HalfAt (h k : Nat) (w : World) : Prop := w.heap[h]? = some (.cells #[.func (.func 146) #[] #[.pointer (some ⟨k, 0, none⟩)]] 186 (0, 0))
def ET : List TypeId := [157, 186]
theorem PlaceAt.stable (k : Nat) (b : Bool) (x : Int) (e : Bool) : Stable ET (PlaceAt k b x e) := fun w w' hk h => hk _ _ _ _ (by simp [ET]) h
theorem HalfAt.stable (h k : Nat) : Stable ET (HalfAt h k) := fun w w' hk q => hk _ _ _ _ (by simp [ET]) q
theorem PlaceAt.c0 {k : Nat} {b : Bool} {x : Int} {e : Bool} {w : World} (h : PlaceAt k b x e w) : w.cell? ⟨k, 0, none⟩ = some (.bool b) := by unfold PlaceAt at h; simp [World.cell?, h]
theorem PlaceAt.c1 {k : Nat} {b : Bool} {x : Int} {e : Bool} {w : World} (h : PlaceAt k b x e w) : w.cell? ⟨k, 1, none⟩ = some (.int .i64 x) := by unfold PlaceAt at h; simp [World.cell?, h]
theorem PlaceAt.c2 {k : Nat} {b : Bool} {x : Int} {e : Bool} {w : World} (h : PlaceAt k b x e w) : w.cell? ⟨k, 2, none⟩ = some (.bool e) := by unfold PlaceAt at h; simp [World.cell?, h]
theorem HalfAt.c0 {h k : Nat} {w : World} (q : HalfAt h k w) : w.cell? ⟨h, 0, none⟩ = some (.func (.func 146) #[] #[.pointer (some ⟨k, 0, none⟩)]) := by unfold HalfAt at q; simp [World.cell?, q]
def halfB (x : Int) (tie : Bool) : Bool := if 0 < x then true else if x = 0 then tie else false
abbrev RB (w : World) (v : Value) : Ending → World → Prop := fun e w' => e = .returned v ∧ Below w.heap.size w w'
section
variable {f0 : FuncId} {w0 : World} {R : Ending → World → Prop} {G : World → Prop} {c : Cf}
structure Rw (C : Cx) (G : World → Prop) (c : Cf) : Prop where
 h : Run C G c
theorem u_of {f : FuncId} {fn : Func} {cd : Code} {args : List Value} {v : Value} {w : World} (hf : Tryz.prog.funcs[f]? = some fn) (hb : fn.body = some cd) (hs : Stable ET G) (hG : G w) (h : Rw ⟨Tryz.prog, f, ET, w, (RB w v)⟩ G (startS fn args)) : Calls Tryz.prog f args.toArray w (RB w v) :=
 calls_run ET G hf hb hs hG h.h
theorem u_load {T : TypeId} {ad : Addr} {v : Value} (h : ∀ w, G w → (loadVar T ad).run Tryz.prog w = .ok v w) (hc : loadAt (adv Tryz.prog ET 9999 400 c) = some (T, ad)) (hk : Rw ⟨Tryz.prog, f0, ET, w0, R⟩ G (resume (adv Tryz.prog ET 9999 400 c) (.val v))) : Rw ⟨Tryz.prog, f0, ET, w0, R⟩ G c :=
 ⟨run_adv mixed (run_ldv hc h hk.h)⟩
theorem u_b (t : Nat) {b b' : Bool} (hv : b = b') (h : (adv Tryz.prog ET t 400 c).fr[t]? = some (.val (.bool b))) (hk : Rw ⟨Tryz.prog, f0, ET, w0, R⟩ G (setS (adv Tryz.prog ET t 400 c) t (.bool b'))) : Rw ⟨Tryz.prog, f0, ET, w0, R⟩ G c :=
 ⟨run_adv mixed (run_pin h (by rw [hv]) hk.h)⟩
theorem u_call {f : FuncId} {vs : List Value} {v : Value} (he : Enters Tryz.prog f) (h : ∀ w, G w → Calls Tryz.prog f vs.toArray w (RB w v)) (hc : callAt (adv Tryz.prog ET 9999 400 c) = some (f, vs.map .val)) (hk : Rw ⟨Tryz.prog, f0, ET, w0, R⟩ G (resume (adv Tryz.prog ET 9999 400 c) (.val v))) : Rw ⟨Tryz.prog, f0, ET, w0, R⟩ G c :=
 ⟨run_adv mixed (run_call1 hc he v h hk.h)⟩
theorem u_ret {fn : Func} {v : Value} (hf : Tryz.prog.funcs[f0]? = some fn) (h : retAt Tryz.prog fn.results.toList (adv Tryz.prog ET 9999 400 c) = some v) : Rw ⟨Tryz.prog, f0, ET, w0, (RB w0 v)⟩ G c :=
 ⟨run_adv mixed (run_ret hf h fun w hb _ => ⟨rfl, hb⟩)⟩
end
theorem half_c (k : Nat) (b : Bool) (x : Int) (e tie : Bool) (w : World) (hp : PlaceAt k b x e w) : Calls Tryz.prog 146 #[.bool tie, .pointer (some ⟨k, 0, none⟩)] w (RB w (.bool (halfB x tie))) := by
 by_cases h0 : 0 < x
 ·have hh : halfB x tie = true := if_pos h0
  rw [hh]
  refine u_of (args := [.bool tie, .pointer (some ⟨k, 0, none⟩)]) Tryz.func146 rfl (PlaceAt.stable k b x e) hp ?_
  refine u_load (fun w h => load_int h.c1) (by kernel_rfl) ?_
  refine u_b 6 (decide_eq_true h0) (by kernel_rfl) ?_
  exact u_ret Tryz.func146 (by kernel_rfl)
 ·by_cases h1 : x = 0
  ·have hh : halfB x tie = tie := by unfold halfB; rw [if_neg h0, if_pos h1]
   rw [hh]
   refine u_of (args := [.bool tie, .pointer (some ⟨k, 0, none⟩)]) Tryz.func146 rfl (PlaceAt.stable k b x e) hp ?_
   refine u_load (fun w h => load_int h.c1) (by kernel_rfl) ?_
   refine u_b 6 (decide_eq_false h0) (by kernel_rfl) ?_
   refine u_load (fun w h => load_int h.c1) (by kernel_rfl) ?_
   refine u_b 10 (beq_iff_eq.2 h1) (by kernel_rfl) ?_
   exact u_ret Tryz.func146 (by kernel_rfl)
  ·have hh : halfB x tie = false := by unfold halfB; rw [if_neg h0, if_neg h1]
   rw [hh]
   refine u_of (args := [.bool tie, .pointer (some ⟨k, 0, none⟩)]) Tryz.func146 rfl (PlaceAt.stable k b x e) hp ?_
   refine u_load (fun w h => load_int h.c1) (by kernel_rfl) ?_
   refine u_b 6 (decide_eq_false h0) (by kernel_rfl) ?_
   refine u_load (fun w h => load_int h.c1) (by kernel_rfl) ?_
   refine u_b 10 (beq_eq_false_iff_ne.2 h1) (by kernel_rfl) ?_
   exact u_ret Tryz.func146 (by kernel_rfl)
theorem c2 (w : World) : Calls Tryz.prog 147 #[] w (RB w (.bool true)) := by
 refine u_of (args := []) (G := fun _ => True) Tryz.func147 rfl (fun _ _ _ _ => trivial) trivial ?_
 exact u_ret Tryz.func147 (by kernel_rfl)
theorem c3 (w : World) : Calls Tryz.prog 148 #[] w (RB w (.bool false)) := by
 refine u_of (args := []) (G := fun _ => True) Tryz.func148 rfl (fun _ _ _ _ => trivial) trivial ?_
 exact u_ret Tryz.func148 (by kernel_rfl)
section
variable (k h : Nat) (b : Bool) (x : Int) (e : Bool) (w : World)
theorem c4 (hp : PlaceAt k b x e w) : Calls Tryz.prog 149 #[.pointer (some ⟨k, 0, none⟩)] w (RB w (.bool (!b))) := by
 refine u_of (args := [.pointer (some ⟨k, 0, none⟩)]) Tryz.func149 rfl (PlaceAt.stable k b x e) hp ?_
 refine u_load (fun w h => load_bool h.c0) (by kernel_rfl) ?_
 exact u_ret Tryz.func149 (by kernel_rfl)
theorem c5 (hp : PlaceAt k b x e w) : Calls Tryz.prog 150 #[.pointer (some ⟨k, 0, none⟩)] w (RB w (.bool b)) := by
 refine u_of (args := [.pointer (some ⟨k, 0, none⟩)]) Tryz.func150 rfl (PlaceAt.stable k b x e) hp ?_
 refine u_load (fun w h => load_bool h.c0) (by kernel_rfl) ?_
 exact u_ret Tryz.func150 (by kernel_rfl)
def Both (w : World) : Prop := HalfAt h k w ∧ PlaceAt k b x e w
theorem Both.stable : Stable ET (Both k h b x e) := fun w w' hk q => ⟨HalfAt.stable h k w w' hk q.1, PlaceAt.stable k b x e w w' hk q.2⟩
theorem load_fn {a : Addr} {v : Value} {w : World} (hc : w.cell? a = some v) : (loadVar 186 a).run Tryz.prog w = .ok v w := load_cell (by kernel_rfl) hc
theorem c6 (hp : Both k h b x e w) : Calls Tryz.prog 151 #[.pointer (some ⟨h, 0, none⟩)] w (RB w (.bool (halfB x true))) := by
 refine u_of (args := [.pointer (some ⟨h, 0, none⟩)]) Tryz.func151 rfl (Both.stable k h b x e) hp ?_
 refine u_load (fun w q => load_fn q.1.c0) (by kernel_rfl) ?_
 refine u_call (vs := [.bool true, .pointer (some ⟨k, 0, none⟩)]) ent146 (fun w q => half_c k b x e true w q.2) (by kernel_rfl) ?_
 exact u_ret Tryz.func151 (by kernel_rfl)
theorem c7 (hp : Both k h b x e w) : Calls Tryz.prog 152 #[.pointer (some ⟨h, 0, none⟩)] w (RB w (.bool (halfB x false))) := by
 refine u_of (args := [.pointer (some ⟨h, 0, none⟩)]) Tryz.func152 rfl (Both.stable k h b x e) hp ?_
 refine u_load (fun w q => load_fn q.1.c0) (by kernel_rfl) ?_
 refine u_call (vs := [.bool false, .pointer (some ⟨k, 0, none⟩)]) ent146 (fun w q => half_c k b x e false w q.2) (by kernel_rfl) ?_
 exact u_ret Tryz.func152 (by kernel_rfl)
theorem c8 (hp : Both k h b x e w) : Calls Tryz.prog 153 #[.pointer (some ⟨h, 0, none⟩), .pointer (some ⟨k, 0, none⟩)] w (RB w (.bool (halfB x (!b)))) := by
 refine u_of (args := [.pointer (some ⟨h, 0, none⟩), .pointer (some ⟨k, 0, none⟩)]) Tryz.func153 rfl (Both.stable k h b x e) hp ?_
 refine u_load (fun w q => load_fn q.1.c0) (by kernel_rfl) ?_
 refine u_load (fun w q => load_bool q.2.c0) (by kernel_rfl) ?_
 refine u_call (vs := [.bool (!b), .pointer (some ⟨k, 0, none⟩)]) ent146 (fun w q => half_c k b x e (!b) w q.2) (by kernel_rfl) ?_
 exact u_ret Tryz.func153 (by kernel_rfl)
theorem c9 (hp : Both k h b x e w) : Calls Tryz.prog 154 #[.pointer (some ⟨h, 0, none⟩), .pointer (some ⟨k, 0, none⟩)] w (RB w (.bool (halfB x b))) := by
 refine u_of (args := [.pointer (some ⟨h, 0, none⟩), .pointer (some ⟨k, 0, none⟩)]) Tryz.func154 rfl (Both.stable k h b x e) hp ?_
 refine u_load (fun w q => load_fn q.1.c0) (by kernel_rfl) ?_
 refine u_load (fun w q => load_bool q.2.c0) (by kernel_rfl) ?_
 refine u_call (vs := [.bool b, .pointer (some ⟨k, 0, none⟩)]) ent146 (fun w q => half_c k b x e b w q.2) (by kernel_rfl) ?_
 exact u_ret Tryz.func154 (by kernel_rfl)
theorem c10 (hp : Both k h b x e w) : Calls Tryz.prog 155 #[.pointer (some ⟨h, 0, none⟩), .pointer (some ⟨k, 0, none⟩)] w (RB w (.bool (halfB x (!e)))) := by
 refine u_of (args := [.pointer (some ⟨h, 0, none⟩), .pointer (some ⟨k, 0, none⟩)]) Tryz.func155 rfl (Both.stable k h b x e) hp ?_
 refine u_load (fun w q => load_fn q.1.c0) (by kernel_rfl) ?_
 refine u_load (fun w q => load_bool q.2.c2) (by kernel_rfl) ?_
 refine u_call (vs := [.bool (!e), .pointer (some ⟨k, 0, none⟩)]) ent146 (fun w q => half_c k b x e (!e) w q.2) (by kernel_rfl) ?_
 exact u_ret Tryz.func155 (by kernel_rfl)
end
end Go.Proofs.YthoedmikfpbfnaaGreat
end
section
/-
 round.up.
-/
set_option linter.unusedVariables false
set_option maxRecDepth 100000
namespace Go.Proofs.YthoedmikfpbfnaaGreat
open Go Go.RowKit Go.Ev

theorem cells_vals {r : Nat → Nat} {N : Nat → Prop} {vs : List Value} {cs : Array Value} (h : CellsOk r N (vs.map .val) cs) : cs = vs.toArray := by
 obtain ⟨h1, h2⟩ := h
 apply Array.ext'
 apply List.ext_getElem?
 intro i
 by_cases hi : i < vs.length
 ·obtain ⟨u, hu, ho, -⟩ := h2 i (.val vs[i]) (by simp [hi])
  obtain rfl : u = vs[i] := ho
  simp [hi, hu]
 ·have e1 : vs[i]? = none := List.getElem?_eq_none (by omega)
  have e2 : cs[i]? = none := Array.getElem?_eq_none (by simp at h1; omega)
  simp [e1, e2]
theorem at_place {r : Nat → Nat} {N : Nat → Prop} {bl : List Bk} {base : TypeId → Nat} {w : World} {b : Bool} {x : Int} {e : Bool} (hb : BlOk r N bl base w) (h0 : bl[0]? = some ⟨[.val (.bool b), .val (.int .i64 x), .val (.bool e)], 157⟩) (hn : ¬ N 0) : PlaceAt (r 0) b x e w := by
 obtain ⟨-, cs, hk, hc⟩ := hb.is 0 _ h0 hn
 have := cells_vals (vs := [.bool b, .int .i64 x, .bool e]) hc
 rw [this] at hk
 exact hk
theorem at_half {r : Nat → Nat} {N : Nat → Prop} {bl : List Bk} {base : TypeId → Nat} {w : World} (hb : BlOk r N bl base w) (h1 : bl[1]? = some ⟨[.clo 146 [.ptr 0 0]], 186⟩) (hn : ¬ N 1) : HalfAt (r 1) (r 0) w ∧ ¬ N 0 := by
 obtain ⟨-, cs, hk, hsz, hc⟩ := hb.is 1 _ h1 hn
 obtain ⟨u, hu, ho, hf⟩ := hc 0 _ rfl
 have hfr : ¬ N 0 := hf (.ptr 0 0) (by simp)
 refine ⟨?_, hfr⟩
 have e : cs = #[u] := by
  apply Array.ext
  ·simpa using hsz
  ·intro i h2 h3
   have : i = 0 := by simp at h3; omega
   subst this
   have := Array.getElem?_eq_some_iff.1 hu
   obtain ⟨_, h4⟩ := this
   simpa using h4
 obtain rfl : u = _ := ho
 rw [e] at hk
 exact hk
def upB (mode : Int) (b : Bool) (x : Int) (e : Bool) : Bool :=
 if mode = 1 then true else if mode = 2 then false else if mode = 3 then !b else if mode = 4 then b else if mode = 5 then halfB x true else if mode = 6 then halfB x false
 else if mode = 7 then halfB x (!b) else if mode = 8 then halfB x b else halfB x (!e)
section
variable {f0 : FuncId} {E : List TypeId} {w0 : World} {R : Ending → World → Prop} {L : ZL} {c : Cf}
theorem st_c {f : FuncId} {ss : List SV} {v : Value} (he : Enters Tryz.prog f) (hc : callAt (adv Tryz.prog E 9999 400 c) = some (f, ss))
  (h : ∀ (r : Nat → Nat) (N : Nat → Prop) (w : World) (us : List Value), Args r N ss us → BlOk r N (adv Tryz.prog E 9999 400 c).bl (Cx.base ⟨Tryz.prog, f0, E, w0, R⟩) w → Calls Tryz.prog f us.toArray w (RB w v))
  (hk : Ru ⟨Tryz.prog, f0, E, w0, R⟩ (ZAll L) (resume (adv Tryz.prog E 9999 400 c) (.val v))) : Ru ⟨Tryz.prog, f0, E, w0, R⟩ (ZAll L) c :=
 ⟨run_adv mixed fun hs => run_call hc he (X := Unit) (fun _ => .val v) (fun _ _ => True) (fun _ _ _ _ _ => trivial) (fun _ _ => trivial)
  (fun r N w us ha hb hG => (h r N w us ha hb).mono fun e w' ⟨h1, h2⟩ => ⟨(), v, h1, rfl, h2, trivial⟩) (fun _ => hk.h.mono hs fun w h => h.1) hs⟩
end
theorem up_1 (b : Bool) (x : Int) (e : Bool) : Fn 108 [] [.int .i64 1, pv b x e] (.tuple #[.bool (true), .bool true]) := by
 refine fn_of Tryz.func108 rfl fun w => ?_
 refine st_c (v := .bool (true)) ent147 (ss := []) (by kernel_rfl) (fun r N w us ha hb => ?_) ?_
 ·have h0 : (adv Tryz.prog [3] 9999 400 (startS Tryz.f108 [.int .i64 1, pv b x e])).bl[0]? = some ⟨[.val (.bool b), .val (.int .i64 x), .val (.bool e)], 157⟩ := by kernel_rfl
  obtain rfl : us = [] := by cases us with
   | nil => rfl
   | cons _ _ => exact ha.elim
  exact c2 w
 ·exact qR Tryz.func108
theorem up_2 (b : Bool) (x : Int) (e : Bool) : Fn 108 [] [.int .i64 2, pv b x e] (.tuple #[.bool (false), .bool true]) := by
 refine fn_of Tryz.func108 rfl fun w => ?_
 refine st_c (v := .bool (false)) ent148 (ss := []) (by kernel_rfl) (fun r N w us ha hb => ?_) ?_
 ·have h0 : (adv Tryz.prog [3] 9999 400 (startS Tryz.f108 [.int .i64 2, pv b x e])).bl[0]? = some ⟨[.val (.bool b), .val (.int .i64 x), .val (.bool e)], 157⟩ := by kernel_rfl
  obtain rfl : us = [] := by cases us with
   | nil => rfl
   | cons _ _ => exact ha.elim
  exact c3 w
 ·exact qR Tryz.func108
theorem up_3 (b : Bool) (x : Int) (e : Bool) : Fn 108 [] [.int .i64 3, pv b x e] (.tuple #[.bool (!b), .bool true]) := by
 refine fn_of Tryz.func108 rfl fun w => ?_
 refine st_c (v := .bool (!b)) ent149 (ss := [.ptr 0 0]) (by kernel_rfl) (fun r N w us ha hb => ?_) ?_
 ·have h0 : (adv Tryz.prog [3] 9999 400 (startS Tryz.f108 [.int .i64 3, pv b x e])).bl[0]? = some ⟨[.val (.bool b), .val (.int .i64 x), .val (.bool e)], 157⟩ := by kernel_rfl
  obtain ⟨u, rfl, hu⟩ : ∃ u, us = [u] ∧ SV.Ok r N (.ptr 0 0) u := by
   match us, ha with
   | [u], ha => exact ⟨u, rfl, ha.1⟩
  obtain rfl : u = _ := hu.1
  exact c4 (r 0) b x e w (at_place hb h0 hu.2)
 ·exact qR Tryz.func108
theorem up_4 (b : Bool) (x : Int) (e : Bool) : Fn 108 [] [.int .i64 4, pv b x e] (.tuple #[.bool (b), .bool true]) := by
 refine fn_of Tryz.func108 rfl fun w => ?_
 refine st_c (v := .bool (b)) ent150 (ss := [.ptr 0 0]) (by kernel_rfl) (fun r N w us ha hb => ?_) ?_
 ·have h0 : (adv Tryz.prog [3] 9999 400 (startS Tryz.f108 [.int .i64 4, pv b x e])).bl[0]? = some ⟨[.val (.bool b), .val (.int .i64 x), .val (.bool e)], 157⟩ := by kernel_rfl
  obtain ⟨u, rfl, hu⟩ : ∃ u, us = [u] ∧ SV.Ok r N (.ptr 0 0) u := by
   match us, ha with
   | [u], ha => exact ⟨u, rfl, ha.1⟩
  obtain rfl : u = _ := hu.1
  exact c5 (r 0) b x e w (at_place hb h0 hu.2)
 ·exact qR Tryz.func108
theorem up_5 (b : Bool) (x : Int) (e : Bool) : Fn 108 [] [.int .i64 5, pv b x e] (.tuple #[.bool (halfB x true), .bool true]) := by
 refine fn_of Tryz.func108 rfl fun w => ?_
 refine st_c (v := .bool (halfB x true)) ent151 (ss := [.ptr 1 0]) (by kernel_rfl) (fun r N w us ha hb => ?_) ?_
 ·have h0 : (adv Tryz.prog [3] 9999 400 (startS Tryz.f108 [.int .i64 5, pv b x e])).bl[0]? = some ⟨[.val (.bool b), .val (.int .i64 x), .val (.bool e)], 157⟩ := by kernel_rfl
  have h1 : (adv Tryz.prog [3] 9999 400 (startS Tryz.f108 [.int .i64 5, pv b x e])).bl[1]? = some ⟨[.clo 146 [.ptr 0 0]], 186⟩ := by kernel_rfl
  obtain ⟨u, rfl, hu⟩ : ∃ u, us = [u] ∧ SV.Ok r N (.ptr 1 0) u := by
   match us, ha with
   | [u], ha => exact ⟨u, rfl, ha.1⟩
  obtain rfl : u = _ := hu.1
  obtain ⟨q1, q2⟩ := at_half hb h1 hu.2
  exact c6 (r 0) (r 1) b x e w ⟨q1, at_place hb h0 q2⟩
 ·exact qR Tryz.func108
theorem up_6 (b : Bool) (x : Int) (e : Bool) : Fn 108 [] [.int .i64 6, pv b x e] (.tuple #[.bool (halfB x false), .bool true]) := by
 refine fn_of Tryz.func108 rfl fun w => ?_
 refine st_c (v := .bool (halfB x false)) ent152 (ss := [.ptr 1 0]) (by kernel_rfl) (fun r N w us ha hb => ?_) ?_
 ·have h0 : (adv Tryz.prog [3] 9999 400 (startS Tryz.f108 [.int .i64 6, pv b x e])).bl[0]? = some ⟨[.val (.bool b), .val (.int .i64 x), .val (.bool e)], 157⟩ := by kernel_rfl
  have h1 : (adv Tryz.prog [3] 9999 400 (startS Tryz.f108 [.int .i64 6, pv b x e])).bl[1]? = some ⟨[.clo 146 [.ptr 0 0]], 186⟩ := by kernel_rfl
  obtain ⟨u, rfl, hu⟩ : ∃ u, us = [u] ∧ SV.Ok r N (.ptr 1 0) u := by
   match us, ha with
   | [u], ha => exact ⟨u, rfl, ha.1⟩
  obtain rfl : u = _ := hu.1
  obtain ⟨q1, q2⟩ := at_half hb h1 hu.2
  exact c7 (r 0) (r 1) b x e w ⟨q1, at_place hb h0 q2⟩
 ·exact qR Tryz.func108
theorem up_7 (b : Bool) (x : Int) (e : Bool) : Fn 108 [] [.int .i64 7, pv b x e] (.tuple #[.bool (halfB x (!b)), .bool true]) := by
 refine fn_of Tryz.func108 rfl fun w => ?_
 refine st_c (v := .bool (halfB x (!b))) ent153 (ss := [.ptr 1 0, .ptr 0 0]) (by kernel_rfl) (fun r N w us ha hb => ?_) ?_
 ·have h0 : (adv Tryz.prog [3] 9999 400 (startS Tryz.f108 [.int .i64 7, pv b x e])).bl[0]? = some ⟨[.val (.bool b), .val (.int .i64 x), .val (.bool e)], 157⟩ := by kernel_rfl
  have h1 : (adv Tryz.prog [3] 9999 400 (startS Tryz.f108 [.int .i64 7, pv b x e])).bl[1]? = some ⟨[.clo 146 [.ptr 0 0]], 186⟩ := by kernel_rfl
  obtain ⟨u, u', rfl, hu, hu'⟩ : ∃ u u', us = [u, u'] ∧ SV.Ok r N (.ptr 1 0) u ∧ SV.Ok r N (.ptr 0 0) u' := by
   match us, ha with
   | [u, u'], ha => exact ⟨u, u', rfl, ha.1, ha.2.1⟩
  obtain rfl : u = _ := hu.1
  obtain rfl : u' = _ := hu'.1
  obtain ⟨q1, q2⟩ := at_half hb h1 hu.2
  exact c8 (r 0) (r 1) b x e w ⟨q1, at_place hb h0 q2⟩
 ·exact qR Tryz.func108
theorem up_8 (b : Bool) (x : Int) (e : Bool) : Fn 108 [] [.int .i64 8, pv b x e] (.tuple #[.bool (halfB x b), .bool true]) := by
 refine fn_of Tryz.func108 rfl fun w => ?_
 refine st_c (v := .bool (halfB x b)) ent154 (ss := [.ptr 1 0, .ptr 0 0]) (by kernel_rfl) (fun r N w us ha hb => ?_) ?_
 ·have h0 : (adv Tryz.prog [3] 9999 400 (startS Tryz.f108 [.int .i64 8, pv b x e])).bl[0]? = some ⟨[.val (.bool b), .val (.int .i64 x), .val (.bool e)], 157⟩ := by kernel_rfl
  have h1 : (adv Tryz.prog [3] 9999 400 (startS Tryz.f108 [.int .i64 8, pv b x e])).bl[1]? = some ⟨[.clo 146 [.ptr 0 0]], 186⟩ := by kernel_rfl
  obtain ⟨u, u', rfl, hu, hu'⟩ : ∃ u u', us = [u, u'] ∧ SV.Ok r N (.ptr 1 0) u ∧ SV.Ok r N (.ptr 0 0) u' := by
   match us, ha with
   | [u, u'], ha => exact ⟨u, u', rfl, ha.1, ha.2.1⟩
  obtain rfl : u = _ := hu.1
  obtain rfl : u' = _ := hu'.1
  obtain ⟨q1, q2⟩ := at_half hb h1 hu.2
  exact c9 (r 0) (r 1) b x e w ⟨q1, at_place hb h0 q2⟩
 ·exact qR Tryz.func108
theorem up_9 (b : Bool) (x : Int) (e : Bool) : Fn 108 [] [.int .i64 9, pv b x e] (.tuple #[.bool (halfB x (!e)), .bool true]) := by
 refine fn_of Tryz.func108 rfl fun w => ?_
 refine st_c (v := .bool (halfB x (!e))) ent155 (ss := [.ptr 1 0, .ptr 0 0]) (by kernel_rfl) (fun r N w us ha hb => ?_) ?_
 ·have h0 : (adv Tryz.prog [3] 9999 400 (startS Tryz.f108 [.int .i64 9, pv b x e])).bl[0]? = some ⟨[.val (.bool b), .val (.int .i64 x), .val (.bool e)], 157⟩ := by kernel_rfl
  have h1 : (adv Tryz.prog [3] 9999 400 (startS Tryz.f108 [.int .i64 9, pv b x e])).bl[1]? = some ⟨[.clo 146 [.ptr 0 0]], 186⟩ := by kernel_rfl
  obtain ⟨u, u', rfl, hu, hu'⟩ : ∃ u u', us = [u, u'] ∧ SV.Ok r N (.ptr 1 0) u ∧ SV.Ok r N (.ptr 0 0) u' := by
   match us, ha with
   | [u, u'], ha => exact ⟨u, u', rfl, ha.1, ha.2.1⟩
  obtain rfl : u = _ := hu.1
  obtain rfl : u' = _ := hu'.1
  obtain ⟨q1, q2⟩ := at_half hb h1 hu.2
  exact c10 (r 0) (r 1) b x e w ⟨q1, at_place hb h0 q2⟩
 ·exact qR Tryz.func108
theorem up_yes (mode : Int) (b : Bool) (x : Int) (e : Bool) (h1 : 1 ≤ mode) (h2 : mode ≤ 9) : Fn 108 [] [.int .i64 mode, pv b x e] (.tuple #[.bool (upB mode b x e), .bool true]) := by
 have hm : mode = 1 ∨ mode = 2 ∨ mode = 3 ∨ mode = 4 ∨ mode = 5 ∨ mode = 6 ∨ mode = 7 ∨ mode = 8 ∨ mode = 9 := by omega
 clear h1 h2
 rcases hm with rfl | rfl | rfl | rfl | rfl | rfl | rfl | rfl | rfl
 ·exact up_1 b x e
 ·exact up_2 b x e
 ·exact up_3 b x e
 ·exact up_4 b x e
 ·exact up_5 b x e
 ·exact up_6 b x e
 ·exact up_7 b x e
 ·exact up_8 b x e
 ·exact up_9 b x e
end Go.Proofs.YthoedmikfpbfnaaGreat
end
section
/-
 round.To and round.Mirror.
-/
set_option linter.unusedVariables false
set_option maxRecDepth 100000
namespace Go.Proofs.YthoedmikfpbfnaaGreat
open Go Go.RowKit Go.Ev

abbrev rtv (y : Int) : Value := .tuple #[.agg #[.int .i64 (thi y), .int .u64 (tlo y)], .int .i64 (ter y)]
theorem rtv_yes {y : Int} (h : W128 y) : rtv y = .tuple #[wv y, .int .i64 0] := by unfold rtv; rw [thi_yes h, tlo_yes h, ter_yes h]
theorem wz_no {r : Int} (h : r ≠ 0) : (hi r == 0 && (lo r == 0 && true)) = false := by
 have e := hi_lo r
 cases k : (hi r == 0 && (lo r == 0 && true)) with
 | false => rfl
 | true =>
  simp only [Bool.and_true, Bool.and_eq_true, beq_iff_eq] at k
  omega
theorem wz_yes {r : Int} (h : r = 0) : (hi r == 0 && (lo r == 0 && true)) = true := by subst h; decide
theorem dec_hi (n : Int) : decide (hi n < 0) = decide (n < 0) := by
 have e := hi_lo n
 have := lo_bd n
 rw [Bool.eq_iff_iff]
 simp only [decide_eq_true_eq]
 omega
theorem rem2 (q : Int) : ((lo q).tmod 2 == 0) = decide (q % 2 = 0) := by
 have := lo_bd q
 rw [Int.tmod_eq_emod_of_nonneg (by omega)]
 unfold lo
 rw [Bool.eq_iff_iff]
 simp
theorem between_fn (q r d : Int) (b : Bool) (hr : W128 r) (hd : W128 d) (h : W128 (d - r)) :
  Fn 109 [] [wv q, wv r, wv d, .bool b] (pv b (cmpI r (d - r)) (decide (q % 2 = 0))) := by
 refine fn_of Tryz.func109 rfl fun ww => ?_
 refine qF ent92 (wsub_yes (d) (r) (by assumption) (by assumption) (by assumption)) ?_
 refine qV 24 (rem2 q) ?_
 refine qF ent55 (wcmp_fn (r) (d - r)) ?_
 exact qR Tryz.func109
def upQ (n d mode : Int) : Bool := upB mode (decide (n < 0)) (cmpI (n.fmod d) (d - n.fmod d)) (decide (n.fdiv d % 2 = 0))
def nearQ (n d mode : Int) : Int := if n.fmod d = 0 then n.fdiv d else if upQ n d mode = true then n.fdiv d + 1 else n.fdiv d
theorem up_t (mode : Int) (b : Bool) (x : Int) (e : Bool) (h1 : 1 ≤ mode) (h2 : mode ≤ 9) (h : upB mode b x e = true) : Fn 108 [] [.int .i64 mode, pv b x e] (.tuple #[.bool true, .bool true]) := h ▸ up_yes mode b x e h1 h2
theorem up_f (mode : Int) (b : Bool) (x : Int) (e : Bool) (h1 : 1 ≤ mode) (h2 : mode ≤ 9) (h : upB mode b x e = false) : Fn 108 [] [.int .i64 mode, pv b x e] (.tuple #[.bool false, .bool true]) := h ▸ up_yes mode b x e h1 h2
theorem fl_bd {w d : Int} (hw : W128 w) (h0 : 0 < d) : W128 (w.fdiv d) ∧ 0 ≤ w.fmod d ∧ w.fmod d < d ∧ d * w.fdiv d + w.fmod d = w := by
 have e := Int.mul_fdiv_add_fmod w d
 have h1 := Int.fmod_eq_emod_of_nonneg w (show 0 ≤ d by omega)
 have h2 := Int.emod_nonneg w (show d ≠ 0 by omega)
 have h3 := Int.emod_lt_of_pos w h0
 have h4 := Int.fdiv_eq_ediv_of_nonneg w (show 0 ≤ d by omega)
 refine ⟨?_, by omega, by omega, e⟩
 rw [h4]
 unfold W128 at *
 have k1 := Int.le_ediv_of_mul_le h0 (show -170141183460469231731687303715884105728 * d ≤ w by
  have : (170141183460469231731687303715884105728 : Int) * 1 ≤ 170141183460469231731687303715884105728 * d := Int.mul_le_mul_of_nonneg_left (by omega) (by omega)
  omega)
 have k2 : w / d < 170141183460469231731687303715884105728 := Int.ediv_lt_of_lt_mul h0 (by
  have : (170141183460469231731687303715884105728 : Int) * 1 ≤ 170141183460469231731687303715884105728 * d := Int.mul_le_mul_of_nonneg_left (by omega) (by omega)
  omega)
 omega
end Go.Proofs.YthoedmikfpbfnaaGreat
end
section
/-
 divide.Fraction.
-/
set_option linter.unusedSimpArgs false
set_option linter.unusedVariables false
namespace Go.Proofs.YthoedmikfpbfnaaGreat
open Go Go.RowKit

def fOk (n d : Int) : Prop := d ≠ 0 ∧ W128 (frP n d) ∧ W128 (frQ n d)
instance (n d : Int) : Decidable (fOk n d) := by unfold fOk; exact inferInstance
def fv (n d x : Int) : Int := if fOk n d then x else 0
def fe (n d : Int) : Int := if d = 0 then 3 else if fOk n d then 0 else 2
def RetFr (w : World) (n d : Int) (e : Ending) (w' : World) : Prop :=
 e = .returned (.tuple #[.agg #[.int .i64 (fv n d (hi (frP n d))), .int .u64 (fv n d (lo (frP n d)))], .agg #[.int .i64 (fv n d (hi (frQ n d))), .int .u64 (fv n d (lo (frQ n d)))], .int .i64 (fe n d)]) ∧ Ext w w'
theorem fv_yes {n d x : Int} (h : fOk n d) : fv n d x = x := if_pos h
theorem fv_no {n d x : Int} (h : ¬ fOk n d) : fv n d x = 0 := if_neg h
theorem fe_yes {n d : Int} (h : fOk n d) : fe n d = 0 := by unfold fe; rw [if_neg h.1, if_pos h]
theorem fe_zero (n : Int) : fe n 0 = 3 := if_pos rfl
theorem fe_no {n d : Int} (h0 : d ≠ 0) (h : ¬ fOk n d) : fe n d = 2 := by unfold fe; rw [if_neg h0, if_neg h]
theorem retFr_yes {w w' : World} {n d : Int} (h : fOk n d) (x : Ext w w') : RetFr w n d (.returned (.tuple #[.agg #[.int .i64 (hi (frP n d)), .int .u64 (lo (frP n d))], .agg #[.int .i64 (hi (frQ n d)), .int .u64 (lo (frQ n d))], .int .i64 0])) w' := by
 refine ⟨?_, x⟩
 rw [fv_yes h, fv_yes h, fv_yes h, fv_yes h, fe_yes h]
theorem retFr_no {w w' : World} {n d : Int} (h0 : d ≠ 0) (h : ¬ fOk n d) (x : Ext w w') : RetFr w n d (.returned (.tuple #[.agg #[.int .i64 0, .int .u64 0], .agg #[.int .i64 0, .int .u64 0], .int .i64 2])) w' := by
 refine ⟨?_, x⟩
 rw [fv_no h, fv_no h, fv_no h, fv_no h, fe_no h0 h]
theorem retFr_zero {w w' : World} {n : Int} (x : Ext w w') : RetFr w n 0 (.returned (.tuple #[.agg #[.int .i64 0, .int .u64 0], .agg #[.int .i64 0, .int .u64 0], .int .i64 3])) w' := by
 refine ⟨?_, x⟩
 have h : ¬ fOk n 0 := fun h => h.1 rfl
 rw [fv_no h, fv_no h, fv_no h, fv_no h, fe_zero]
set_option maxRecDepth 100000 in
set_option maxHeartbeats 3200000 in
theorem dfrac0 (n : Int) (w : World) :
  Calls Tryz.prog 41 #[.agg #[.int .i64 (hi n), .int .u64 (lo n)], .agg #[.int .i64 0, .int .u64 0]] w (RetFr w n 0) := by
 go_enter Tryz.func41, Tryz.ntmps41
 go_upto_region 1 with fail
 have xw := Ext.refl w
 refine wp_name ?_
 intro V1 hV
 replace xw : Ext w V1 := by rw [hV]; exact Ext.alloc (Ext.alloc (Ext.alloc (Ext.alloc (xw))))
 have b2 : Box2 V1 w.heap.size (.int .i64 (hi n)) (.int .u64 (lo n)) 42 := by rw [hV]; exact (((Box2.new rfl).alloc _).alloc _).alloc _
 have b3 : Box2 V1 (w.heap.size + 1) (.int .i64 0) (.int .u64 0) 42 := by rw [hV]; exact ((Box2.new (by simp)).alloc _).alloc _
 have b4 : Box2 V1 (w.heap.size + 1 + 1) (.int .i64 0) (.int .u64 0) 42 := by rw [hV]; exact (Box2.new (by simp)).alloc _
 have b5 : Box2 V1 (w.heap.size + 1 + 1 + 1) (.int .i64 0) (.int .u64 0) 42 := by rw [hV]; exact Box2.new (by simp)
 clear hV
 have b3_c0 := b3.c0
 have b3_c1 := b3.c1
 go_upto_region 2 with fail
 clear b3_c0 b3_c1
 have b4_c0 := b4.c0
 have b4_c1 := b4.c1
 have b4_f0 := b4.f0
 have b4_f1 := b4.f1
 have b5_c0 := b5.c0
 have b5_c1 := b5.c1
 have b5_f0 := b5.f0
 have b5_f1 := b5.f1
 have xr := Ext.set (Ext.set (Ext.set (Ext.set (xw) (k := w.heap.size + 1 + 1) (o := 0) (u := .int .i64 0) (by omega)) (k := w.heap.size + 1 + 1) (o := 1) (u := .int .u64 0) (by omega)) (k := w.heap.size + 1 + 1 + 1) (o := 0) (u := .int .i64 0) (by omega)) (k := w.heap.size + 1 + 1 + 1) (o := 1) (u := .int .u64 0) (by omega)
 go_wp2_with fail
 refine bodyPost_ret (v := .tuple #[.agg #[.int .i64 0, .int .u64 0], .agg #[.int .i64 0, .int .u64 0], .int .i64 3]) (by simp [results, Tryz.results41, go_sem, b4_c0, b4_c1, b5_c0, b5_c1]) rfl (retFr_zero xr)
set_option maxRecDepth 100000 in
set_option maxHeartbeats 3200000 in
theorem dfrac_yes (n d : Int) (w : World) (hn : W128 n) (hd : W128 d) (h0 : d ≠ 0) (hP : W128 (frP n d)) (hQ : W128 (frQ n d)) :
  Calls Tryz.prog 41 #[.agg #[.int .i64 (hi n), .int .u64 (lo n)], .agg #[.int .i64 (hi d), .int .u64 (lo d)]] w (RetFr w n d) := by
 have HPar := Lib.hid dparts
 have HGc := Lib.hid dgcd
 have HSgd := Lib.hid dsigned
 have HOT := Lib.hid (overTo_all (M := 170141183460469231731687303715884105728) (Nat.le_refl _))
 have HBd := Lib.hid (show n.natAbs ≤ 170141183460469231731687303715884105728 ∧ d.natAbs ≤ 170141183460469231731687303715884105728 by unfold W128 at hn hd; omega)
 obtain ⟨A, hA⟩ : ∃ A : Nat, A = n.natAbs := ⟨_, rfl⟩
 obtain ⟨D, hD⟩ : ∃ D : Nat, D = d.natAbs := ⟨_, rfl⟩
 obtain ⟨G, hG⟩ : ∃ G : Nat, G = Nat.gcd A D := ⟨_, rfl⟩
 obtain ⟨X, hX⟩ : ∃ X : Nat, X = A / G := ⟨_, rfl⟩
 obtain ⟨Y, hY⟩ : ∃ Y : Nat, Y = D / G := ⟨_, rfl⟩
 have hg : 0 < G := by rw [hG, hA, hD]; exact gcd_pos h0
 have hg2 : G ≤ D := by rw [hG]; exact Nat.gcd_le_right _ (by omega)
 rw [← hA, ← hD] at HBd
 have HA := Lib.hid (show mag n = (A : Int) by rw [hA]; exact mag_abs n)
 have HD := Lib.hid (show mag d = (D : Int) by rw [hD]; exact mag_abs d)
 have HG := Lib.hid (show ((Nat.gcd A D : Nat) : Int) = (G : Int) by rw [hG])
 have HO1 := Lib.hid (show OverC (A : Int) (G : Int) from HOT.out A G HBd.out.1 hg (Nat.le_trans hg2 HBd.out.2))
 have HO2 := Lib.hid (show OverC (D : Int) (G : Int) from HOT.out D G HBd.out.2 hg (Nat.le_trans hg2 HBd.out.2))
 have HX := Lib.hid (show (A : Int) / (G : Int) = (X : Int) by rw [hX]; omega)
 have HY := Lib.hid (show (D : Int) / (G : Int) = (Y : Int) by rw [hY]; omega)
 have HUX := Lib.hid (show U128 (X : Int) by have := Nat.div_le_self A G; have := HBd.out.1; unfold U128; omega)
 have HUY := Lib.hid (show U128 (Y : Int) by have := Nat.div_le_self D G; have := HBd.out.2; unfold U128; omega)
 have HP := Lib.hid (show wsg (!(decide (n < 0) == decide (d < 0))) (X : Int) = frP n d by unfold frP; rw [hX, hG, hA, hD])
 have HQ := Lib.hid (show wsg false (Y : Int) = frQ n d by unfold frQ; rw [hY, hG, hA, hD]; rfl)
 obtain ⟨r1, e1⟩ : ∃ r, (A : Int) % (G : Int) = r := ⟨_, rfl⟩
 obtain ⟨r2, e2⟩ : ∃ r, (D : Int) % (G : Int) = r := ⟨_, rfl⟩
 have HR1 := Lib.hid e1
 have HR2 := Lib.hid e2
 obtain ⟨t1, e3⟩ : ∃ r, thi (frQ n d) = r := ⟨_, rfl⟩
 obtain ⟨t2, e4⟩ : ∃ r, tlo (frQ n d) = r := ⟨_, rfl⟩
 obtain ⟨t3, e5⟩ : ∃ r, ter (frQ n d) = r := ⟨_, rfl⟩
 have HT1 := Lib.hid e3
 have HT2 := Lib.hid e4
 have HT3 := Lib.hid e5
 have H0 := Lib.hid h0
 have hz : ¬ (hi d = 0 ∧ lo d = 0) := by rintro ⟨g1, g2⟩; have := hi_lo d; omega
 clear hA hD hG hX hY e1 e2 e3 e4 e5 h0 hg hg2
 by_cases hz1 : hi d = 0
 ·have g1 : (hi d == 0) = true := by simpa using hz1
  have g2 : (lo d == 0) = false := by simpa using fun h => hz ⟨hz1, h⟩
  clear hz hz1
  go_enter Tryz.func41, Tryz.ntmps41
  go_upto_region 1 with fail
  have xw := Ext.refl w
  refine wp_name ?_
  intro V1 hV
  replace xw : Ext w V1 := by rw [hV]; exact Ext.alloc (Ext.alloc (Ext.alloc (Ext.alloc (xw))))
  have b2 : Box2 V1 w.heap.size (.int .i64 (hi n)) (.int .u64 (lo n)) 42 := by rw [hV]; exact (((Box2.new rfl).alloc _).alloc _).alloc _
  have b3 : Box2 V1 (w.heap.size + 1) (.int .i64 (hi d)) (.int .u64 (lo d)) 42 := by rw [hV]; exact ((Box2.new (by simp)).alloc _).alloc _
  have b4 : Box2 V1 (w.heap.size + 1 + 1) (.int .i64 0) (.int .u64 0) 42 := by rw [hV]; exact (Box2.new (by simp)).alloc _
  have b5 : Box2 V1 (w.heap.size + 1 + 1 + 1) (.int .i64 0) (.int .u64 0) 42 := by rw [hV]; exact Box2.new (by simp)
  clear hV
  have b3_c0 := b3.c0
  have b3_c1 := b3.c1
  go_upto_region 3 with fail
  clear b3_c0 b3_c1
  have b2_c0 := b2.c0
  have b2_c1 := b2.c1
  go_wp2_with fail
  refine (HPar.out n _ hn).mono ?_
  rw [HA.out]
  rintro e w2 ⟨rfl, x2⟩
  clear b2_c0 b2_c1
  replace b2 := b2.ext x2
  replace b3 := b3.ext x2
  replace b4 := b4.ext x2
  replace b5 := b5.ext x2
  replace xw := Ext.trans xw x2
  go_upto_region 4 with fail
  have o4 := b2.kind.lt
  have o5 := b3.kind.lt
  have o6 := b4.kind.lt
  have o7 := b5.kind.lt
  have o8 := xw.size
  refine wp_name ?_
  intro V3 hV
  have b2N : Box2 V3 w.heap.size (.int .i64 (hi n)) (.int .u64 (lo n)) 42 := by rw [hV]; exact (b2).alloc _
  have b3N : Box2 V3 (w.heap.size + 1) (.int .i64 (hi d)) (.int .u64 (lo d)) 42 := by rw [hV]; exact (b3).alloc _
  have b4N : Box2 V3 (w.heap.size + 1 + 1) (.int .i64 0) (.int .u64 0) 42 := by rw [hV]; exact (b4).alloc _
  have b5N : Box2 V3 (w.heap.size + 1 + 1 + 1) (.int .i64 0) (.int .u64 0) 42 := by rw [hV]; exact (b5).alloc _
  replace xw : Ext w V3 := by rw [hV]; exact Ext.alloc (xw)
  replace b2 := b2N; clear b2N
  replace b3 := b3N; clear b3N
  replace b4 := b4N; clear b4N
  replace b5 := b5N; clear b5N
  have b7 : Box2 V3 w2.heap.size (.int .u64 (hi (A : Int))) (.int .u64 (lo (A : Int))) 139 := by rw [hV]; exact Box2.new rfl
  clear hV
  have b3_c0 := b3.c0
  have b3_c1 := b3.c1
  go_wp2_with fail
  refine (HPar.out d _ hd).mono ?_
  rw [HD.out]
  rintro e w9 ⟨rfl, x9⟩
  clear b3_c0 b3_c1
  replace b2 := b2.ext x9
  replace b3 := b3.ext x9
  replace b4 := b4.ext x9
  replace b5 := b5.ext x9
  replace b7 := b7.ext x9
  replace xw := Ext.trans xw x9
  go_upto_region 5 with fail
  have o11 := b7.kind.lt
  have o12 := xw.size
  refine wp_name ?_
  intro V10 hV
  have b2N : Box2 V10 w.heap.size (.int .i64 (hi n)) (.int .u64 (lo n)) 42 := by rw [hV]; exact (b2).alloc _
  have b3N : Box2 V10 (w.heap.size + 1) (.int .i64 (hi d)) (.int .u64 (lo d)) 42 := by rw [hV]; exact (b3).alloc _
  have b4N : Box2 V10 (w.heap.size + 1 + 1) (.int .i64 0) (.int .u64 0) 42 := by rw [hV]; exact (b4).alloc _
  have b5N : Box2 V10 (w.heap.size + 1 + 1 + 1) (.int .i64 0) (.int .u64 0) 42 := by rw [hV]; exact (b5).alloc _
  have b7N : Box2 V10 w2.heap.size (.int .u64 (hi (A : Int))) (.int .u64 (lo (A : Int))) 139 := by rw [hV]; exact (b7).alloc _
  replace xw : Ext w V10 := by rw [hV]; exact Ext.alloc (xw)
  replace b2 := b2N; clear b2N
  replace b3 := b3N; clear b3N
  replace b4 := b4N; clear b4N
  replace b5 := b5N; clear b5N
  replace b7 := b7N; clear b7N
  have b9 : Box2 V10 w9.heap.size (.int .u64 (hi (D : Int))) (.int .u64 (lo (D : Int))) 139 := by rw [hV]; exact Box2.new rfl
  clear hV
  have b7_c0 := b7.c0
  have b7_c1 := b7.c1
  have b9_c0 := b9.c0
  have b9_c1 := b9.c1
  go_wp2_with fail
  refine (HGc.out 170141183460469231731687303715884105728 A D _ HBd.out.1 HBd.out.2 HOT.out).mono ?_
  rw [HG.out]
  rintro e w13 ⟨rfl, x13⟩
  clear b7_c0 b7_c1 b9_c0 b9_c1
  replace b2 := b2.ext x13
  replace b3 := b3.ext x13
  replace b4 := b4.ext x13
  replace b5 := b5.ext x13
  replace b7 := b7.ext x13
  replace b9 := b9.ext x13
  replace xw := Ext.trans xw x13
  go_upto_region 6 with fail
  have o15 := b9.kind.lt
  have o16 := xw.size
  refine wp_name ?_
  intro V14 hV
  have b2N : Box2 V14 w.heap.size (.int .i64 (hi n)) (.int .u64 (lo n)) 42 := by rw [hV]; exact (b2).alloc _
  have b3N : Box2 V14 (w.heap.size + 1) (.int .i64 (hi d)) (.int .u64 (lo d)) 42 := by rw [hV]; exact (b3).alloc _
  have b4N : Box2 V14 (w.heap.size + 1 + 1) (.int .i64 0) (.int .u64 0) 42 := by rw [hV]; exact (b4).alloc _
  have b5N : Box2 V14 (w.heap.size + 1 + 1 + 1) (.int .i64 0) (.int .u64 0) 42 := by rw [hV]; exact (b5).alloc _
  have b7N : Box2 V14 w2.heap.size (.int .u64 (hi (A : Int))) (.int .u64 (lo (A : Int))) 139 := by rw [hV]; exact (b7).alloc _
  have b9N : Box2 V14 w9.heap.size (.int .u64 (hi (D : Int))) (.int .u64 (lo (D : Int))) 139 := by rw [hV]; exact (b9).alloc _
  replace xw : Ext w V14 := by rw [hV]; exact Ext.alloc (xw)
  replace b2 := b2N; clear b2N
  replace b3 := b3N; clear b3N
  replace b4 := b4N; clear b4N
  replace b5 := b5N; clear b5N
  replace b7 := b7N; clear b7N
  replace b9 := b9N; clear b9N
  have b11 : Box2 V14 w13.heap.size (.int .u64 (hi (G : Int))) (.int .u64 (lo (G : Int))) 139 := by rw [hV]; exact Box2.new rfl
  clear hV
  have b7_c0 := b7.c0
  have b7_c1 := b7.c1
  have b11_c0 := b11.c0
  have b11_c1 := b11.c1
  go_wp2_with fail
  refine (HO1.out _).mono ?_
  rw [HX.out, HR1.out]
  rintro e w17 ⟨rfl, x17⟩
  clear b7_c0 b7_c1 b11_c0 b11_c1
  replace b2 := b2.ext x17
  replace b3 := b3.ext x17
  replace b4 := b4.ext x17
  replace b5 := b5.ext x17
  replace b7 := b7.ext x17
  replace b9 := b9.ext x17
  replace b11 := b11.ext x17
  replace xw := Ext.trans xw x17
  have b7_c0 := b7.c0
  have b7_c1 := b7.c1
  have b7_f0 := b7.f0
  have b7_f1 := b7.f1
  go_upto_region 7 with fail
  clear b7_c0 b7_c1 b7_f0 b7_f1
  refine wp_name ?_
  intro V18 hV
  have b2N : Box2 V18 w.heap.size (.int .i64 (hi n)) (.int .u64 (lo n)) 42 := by rw [hV]; exact ((b2).other (b := w2.heap.size) (by omega) 0 (.int .u64 (hi (X : Int)))).other (b := w2.heap.size) (by omega) 1 (.int .u64 (lo (X : Int)))
  have b3N : Box2 V18 (w.heap.size + 1) (.int .i64 (hi d)) (.int .u64 (lo d)) 42 := by rw [hV]; exact ((b3).other (b := w2.heap.size) (by omega) 0 (.int .u64 (hi (X : Int)))).other (b := w2.heap.size) (by omega) 1 (.int .u64 (lo (X : Int)))
  have b4N : Box2 V18 (w.heap.size + 1 + 1) (.int .i64 0) (.int .u64 0) 42 := by rw [hV]; exact ((b4).other (b := w2.heap.size) (by omega) 0 (.int .u64 (hi (X : Int)))).other (b := w2.heap.size) (by omega) 1 (.int .u64 (lo (X : Int)))
  have b5N : Box2 V18 (w.heap.size + 1 + 1 + 1) (.int .i64 0) (.int .u64 0) 42 := by rw [hV]; exact ((b5).other (b := w2.heap.size) (by omega) 0 (.int .u64 (hi (X : Int)))).other (b := w2.heap.size) (by omega) 1 (.int .u64 (lo (X : Int)))
  have b7N : Box2 V18 w2.heap.size (.int .u64 (hi (X : Int))) (.int .u64 (lo (X : Int))) 139 := by rw [hV]; exact (b7).set (.int .u64 (hi (X : Int))) (.int .u64 (lo (X : Int)))
  have b9N : Box2 V18 w9.heap.size (.int .u64 (hi (D : Int))) (.int .u64 (lo (D : Int))) 139 := by rw [hV]; exact ((b9).other (b := w2.heap.size) (by omega) 0 (.int .u64 (hi (X : Int)))).other (b := w2.heap.size) (by omega) 1 (.int .u64 (lo (X : Int)))
  have b11N : Box2 V18 w13.heap.size (.int .u64 (hi (G : Int))) (.int .u64 (lo (G : Int))) 139 := by rw [hV]; exact ((b11).other (b := w2.heap.size) (by omega) 0 (.int .u64 (hi (X : Int)))).other (b := w2.heap.size) (by omega) 1 (.int .u64 (lo (X : Int)))
  replace xw : Ext w V18 := by rw [hV]; exact Ext.set (Ext.set (xw) (k := w2.heap.size) (o := 0) (u := .int .u64 (hi (X : Int))) (by omega)) (k := w2.heap.size) (o := 1) (u := .int .u64 (lo (X : Int))) (by omega)
  replace b2 := b2N; clear b2N
  replace b3 := b3N; clear b3N
  replace b4 := b4N; clear b4N
  replace b5 := b5N; clear b5N
  replace b7 := b7N; clear b7N
  replace b9 := b9N; clear b9N
  replace b11 := b11N; clear b11N
  clear hV
  have b9_c0 := b9.c0
  have b9_c1 := b9.c1
  have b11_c0 := b11.c0
  have b11_c1 := b11.c1
  go_wp2_with fail
  refine (HO2.out _).mono ?_
  rw [HY.out, HR2.out]
  rintro e w19 ⟨rfl, x19⟩
  clear b9_c0 b9_c1 b11_c0 b11_c1
  replace b2 := b2.ext x19
  replace b3 := b3.ext x19
  replace b4 := b4.ext x19
  replace b5 := b5.ext x19
  replace b7 := b7.ext x19
  replace b9 := b9.ext x19
  replace b11 := b11.ext x19
  replace xw := Ext.trans xw x19
  have b9_c0 := b9.c0
  have b9_c1 := b9.c1
  have b9_f0 := b9.f0
  have b9_f1 := b9.f1
  go_upto_region 8 with fail
  clear b9_c0 b9_c1 b9_f0 b9_f1
  refine wp_name ?_
  intro V20 hV
  have b2N : Box2 V20 w.heap.size (.int .i64 (hi n)) (.int .u64 (lo n)) 42 := by rw [hV]; exact ((b2).other (b := w9.heap.size) (by omega) 0 (.int .u64 (hi (Y : Int)))).other (b := w9.heap.size) (by omega) 1 (.int .u64 (lo (Y : Int)))
  have b3N : Box2 V20 (w.heap.size + 1) (.int .i64 (hi d)) (.int .u64 (lo d)) 42 := by rw [hV]; exact ((b3).other (b := w9.heap.size) (by omega) 0 (.int .u64 (hi (Y : Int)))).other (b := w9.heap.size) (by omega) 1 (.int .u64 (lo (Y : Int)))
  have b4N : Box2 V20 (w.heap.size + 1 + 1) (.int .i64 0) (.int .u64 0) 42 := by rw [hV]; exact ((b4).other (b := w9.heap.size) (by omega) 0 (.int .u64 (hi (Y : Int)))).other (b := w9.heap.size) (by omega) 1 (.int .u64 (lo (Y : Int)))
  have b5N : Box2 V20 (w.heap.size + 1 + 1 + 1) (.int .i64 0) (.int .u64 0) 42 := by rw [hV]; exact ((b5).other (b := w9.heap.size) (by omega) 0 (.int .u64 (hi (Y : Int)))).other (b := w9.heap.size) (by omega) 1 (.int .u64 (lo (Y : Int)))
  have b7N : Box2 V20 w2.heap.size (.int .u64 (hi (X : Int))) (.int .u64 (lo (X : Int))) 139 := by rw [hV]; exact ((b7).other (b := w9.heap.size) (by omega) 0 (.int .u64 (hi (Y : Int)))).other (b := w9.heap.size) (by omega) 1 (.int .u64 (lo (Y : Int)))
  have b9N : Box2 V20 w9.heap.size (.int .u64 (hi (Y : Int))) (.int .u64 (lo (Y : Int))) 139 := by rw [hV]; exact (b9).set (.int .u64 (hi (Y : Int))) (.int .u64 (lo (Y : Int)))
  have b11N : Box2 V20 w13.heap.size (.int .u64 (hi (G : Int))) (.int .u64 (lo (G : Int))) 139 := by rw [hV]; exact ((b11).other (b := w9.heap.size) (by omega) 0 (.int .u64 (hi (Y : Int)))).other (b := w9.heap.size) (by omega) 1 (.int .u64 (lo (Y : Int)))
  replace xw : Ext w V20 := by rw [hV]; exact Ext.set (Ext.set (xw) (k := w9.heap.size) (o := 0) (u := .int .u64 (hi (Y : Int))) (by omega)) (k := w9.heap.size) (o := 1) (u := .int .u64 (lo (Y : Int))) (by omega)
  replace b2 := b2N; clear b2N
  replace b3 := b3N; clear b3N
  replace b4 := b4N; clear b4N
  replace b5 := b5N; clear b5N
  replace b7 := b7N; clear b7N
  replace b9 := b9N; clear b9N
  replace b11 := b11N; clear b11N
  clear hV
  have b7_c0 := b7.c0
  have b7_c1 := b7.c1
  go_wp2_with fail
  refine (HSgd.out _ _ _ HUX.out).mono ?_
  rw [HP.out]
  rintro e w21 ⟨rfl, x21⟩
  rw [thi_yes hP, tlo_yes hP, ter_yes hP]
  clear b7_c0 b7_c1
  replace b2 := b2.ext x21
  replace b3 := b3.ext x21
  replace b4 := b4.ext x21
  replace b5 := b5.ext x21
  replace b7 := b7.ext x21
  replace b9 := b9.ext x21
  replace b11 := b11.ext x21
  replace xw := Ext.trans xw x21
  go_upto_region 9 with fail
  have o23 := b11.kind.lt
  have o24 := xw.size
  refine wp_name ?_
  intro V22 hV
  have b2N : Box2 V22 w.heap.size (.int .i64 (hi n)) (.int .u64 (lo n)) 42 := by rw [hV]; exact (b2).alloc _
  have b3N : Box2 V22 (w.heap.size + 1) (.int .i64 (hi d)) (.int .u64 (lo d)) 42 := by rw [hV]; exact (b3).alloc _
  have b4N : Box2 V22 (w.heap.size + 1 + 1) (.int .i64 0) (.int .u64 0) 42 := by rw [hV]; exact (b4).alloc _
  have b5N : Box2 V22 (w.heap.size + 1 + 1 + 1) (.int .i64 0) (.int .u64 0) 42 := by rw [hV]; exact (b5).alloc _
  have b7N : Box2 V22 w2.heap.size (.int .u64 (hi (X : Int))) (.int .u64 (lo (X : Int))) 139 := by rw [hV]; exact (b7).alloc _
  have b9N : Box2 V22 w9.heap.size (.int .u64 (hi (Y : Int))) (.int .u64 (lo (Y : Int))) 139 := by rw [hV]; exact (b9).alloc _
  have b11N : Box2 V22 w13.heap.size (.int .u64 (hi (G : Int))) (.int .u64 (lo (G : Int))) 139 := by rw [hV]; exact (b11).alloc _
  replace xw : Ext w V22 := by rw [hV]; exact Ext.alloc (xw)
  replace b2 := b2N; clear b2N
  replace b3 := b3N; clear b3N
  replace b4 := b4N; clear b4N
  replace b5 := b5N; clear b5N
  replace b7 := b7N; clear b7N
  replace b9 := b9N; clear b9N
  replace b11 := b11N; clear b11N
  have b12 : Box2 V22 w21.heap.size (.int .i64 (hi (frP n d))) (.int .u64 (lo (frP n d))) 42 := by rw [hV]; exact Box2.new rfl
  clear hV
  have b9_c0 := b9.c0
  have b9_c1 := b9.c1
  go_wp2_with fail
  refine (HSgd.out _ _ _ HUY.out).mono ?_
  rw [HQ.out]
  rintro e w25 ⟨rfl, x25⟩
  rw [thi_yes hQ, tlo_yes hQ, ter_yes hQ]
  clear b9_c0 b9_c1
  replace b2 := b2.ext x25
  replace b3 := b3.ext x25
  replace b4 := b4.ext x25
  replace b5 := b5.ext x25
  replace b7 := b7.ext x25
  replace b9 := b9.ext x25
  replace b11 := b11.ext x25
  replace b12 := b12.ext x25
  replace xw := Ext.trans xw x25
  go_upto_region 10 with fail
  have o27 := b12.kind.lt
  have o28 := xw.size
  refine wp_name ?_
  intro V26 hV
  have b2N : Box2 V26 w.heap.size (.int .i64 (hi n)) (.int .u64 (lo n)) 42 := by rw [hV]; exact (b2).alloc _
  have b3N : Box2 V26 (w.heap.size + 1) (.int .i64 (hi d)) (.int .u64 (lo d)) 42 := by rw [hV]; exact (b3).alloc _
  have b4N : Box2 V26 (w.heap.size + 1 + 1) (.int .i64 0) (.int .u64 0) 42 := by rw [hV]; exact (b4).alloc _
  have b5N : Box2 V26 (w.heap.size + 1 + 1 + 1) (.int .i64 0) (.int .u64 0) 42 := by rw [hV]; exact (b5).alloc _
  have b7N : Box2 V26 w2.heap.size (.int .u64 (hi (X : Int))) (.int .u64 (lo (X : Int))) 139 := by rw [hV]; exact (b7).alloc _
  have b9N : Box2 V26 w9.heap.size (.int .u64 (hi (Y : Int))) (.int .u64 (lo (Y : Int))) 139 := by rw [hV]; exact (b9).alloc _
  have b11N : Box2 V26 w13.heap.size (.int .u64 (hi (G : Int))) (.int .u64 (lo (G : Int))) 139 := by rw [hV]; exact (b11).alloc _
  have b12N : Box2 V26 w21.heap.size (.int .i64 (hi (frP n d))) (.int .u64 (lo (frP n d))) 42 := by rw [hV]; exact (b12).alloc _
  replace xw : Ext w V26 := by rw [hV]; exact Ext.alloc (xw)
  replace b2 := b2N; clear b2N
  replace b3 := b3N; clear b3N
  replace b4 := b4N; clear b4N
  replace b5 := b5N; clear b5N
  replace b7 := b7N; clear b7N
  replace b9 := b9N; clear b9N
  replace b11 := b11N; clear b11N
  replace b12 := b12N; clear b12N
  have b14 : Box2 V26 w25.heap.size (.int .i64 (hi (frQ n d))) (.int .u64 (lo (frQ n d))) 42 := by rw [hV]; exact Box2.new rfl
  clear hV
  go_upto_region 12 with fail
  have b12_c0 := b12.c0
  have b12_c1 := b12.c1
  have b14_c0 := b14.c0
  have b14_c1 := b14.c1
  have b4_c0 := b4.c0
  have b4_c1 := b4.c1
  have b4_f0 := b4.f0
  have b4_f1 := b4.f1
  have b5_c0 := b5.c0
  have b5_c1 := b5.c1
  have b5_f0 := b5.f0
  have b5_f1 := b5.f1
  have ne4_5 : ¬ w.heap.size + 1 + 1 = w.heap.size + 1 + 1 + 1 := by omega
  have ne5_4 : ¬ w.heap.size + 1 + 1 + 1 = w.heap.size + 1 + 1 := by omega
  have ne4_12 : ¬ w.heap.size + 1 + 1 = w21.heap.size := by omega
  have ne12_4 : ¬ w21.heap.size = w.heap.size + 1 + 1 := by omega
  have ne4_14 : ¬ w.heap.size + 1 + 1 = w25.heap.size := by omega
  have ne14_4 : ¬ w25.heap.size = w.heap.size + 1 + 1 := by omega
  have ne5_12 : ¬ w.heap.size + 1 + 1 + 1 = w21.heap.size := by omega
  have ne12_5 : ¬ w21.heap.size = w.heap.size + 1 + 1 + 1 := by omega
  have ne5_14 : ¬ w.heap.size + 1 + 1 + 1 = w25.heap.size := by omega
  have ne14_5 : ¬ w25.heap.size = w.heap.size + 1 + 1 + 1 := by omega
  go_region
  clear ne4_5 ne5_4 ne4_12 ne12_4 ne4_14 ne14_4 ne5_12 ne12_5 ne5_14 ne14_5
  have xr := Ext.drew (Ext.set (Ext.set (Ext.set (Ext.set (xw) (k := w.heap.size + 1 + 1) (o := 0) (u := .int .i64 (hi (frP n d))) (by omega)) (k := w.heap.size + 1 + 1) (o := 1) (u := .int .u64 (lo (frP n d))) (by omega)) (k := w.heap.size + 1 + 1 + 1) (o := 0) (u := .int .i64 (hi (frQ n d))) (by omega)) (k := w.heap.size + 1 + 1 + 1) (o := 1) (u := .int .u64 (lo (frQ n d))) (by omega))
  go_wp2_with fail
  refine bodyPost_ret (v := .tuple #[.agg #[.int .i64 (hi (frP n d)), .int .u64 (lo (frP n d))], .agg #[.int .i64 (hi (frQ n d)), .int .u64 (lo (frQ n d))], .int .i64 0]) (by simp [results, Tryz.results41, go_sem, b4_c0, b4_c1, b5_c0, b5_c1]) rfl (retFr_yes ⟨H0.out, hP, hQ⟩ xr)
 ·have g1 : (hi d == 0) = false := by simpa using hz1
  clear hz hz1
  go_enter Tryz.func41, Tryz.ntmps41
  go_upto_region 1 with fail
  have xw := Ext.refl w
  refine wp_name ?_
  intro V29 hV
  replace xw : Ext w V29 := by rw [hV]; exact Ext.alloc (Ext.alloc (Ext.alloc (Ext.alloc (xw))))
  have b2 : Box2 V29 w.heap.size (.int .i64 (hi n)) (.int .u64 (lo n)) 42 := by rw [hV]; exact (((Box2.new rfl).alloc _).alloc _).alloc _
  have b3 : Box2 V29 (w.heap.size + 1) (.int .i64 (hi d)) (.int .u64 (lo d)) 42 := by rw [hV]; exact ((Box2.new (by simp)).alloc _).alloc _
  have b4 : Box2 V29 (w.heap.size + 1 + 1) (.int .i64 0) (.int .u64 0) 42 := by rw [hV]; exact (Box2.new (by simp)).alloc _
  have b5 : Box2 V29 (w.heap.size + 1 + 1 + 1) (.int .i64 0) (.int .u64 0) 42 := by rw [hV]; exact Box2.new (by simp)
  clear hV
  have b3_c0 := b3.c0
  have b3_c1 := b3.c1
  go_upto_region 3 with fail
  clear b3_c0 b3_c1
  have b2_c0 := b2.c0
  have b2_c1 := b2.c1
  go_wp2_with fail
  refine (HPar.out n _ hn).mono ?_
  rw [HA.out]
  rintro e w30 ⟨rfl, x30⟩
  clear b2_c0 b2_c1
  replace b2 := b2.ext x30
  replace b3 := b3.ext x30
  replace b4 := b4.ext x30
  replace b5 := b5.ext x30
  replace xw := Ext.trans xw x30
  go_upto_region 4 with fail
  have o32 := b2.kind.lt
  have o33 := b3.kind.lt
  have o34 := b4.kind.lt
  have o35 := b5.kind.lt
  have o36 := xw.size
  refine wp_name ?_
  intro V31 hV
  have b2N : Box2 V31 w.heap.size (.int .i64 (hi n)) (.int .u64 (lo n)) 42 := by rw [hV]; exact (b2).alloc _
  have b3N : Box2 V31 (w.heap.size + 1) (.int .i64 (hi d)) (.int .u64 (lo d)) 42 := by rw [hV]; exact (b3).alloc _
  have b4N : Box2 V31 (w.heap.size + 1 + 1) (.int .i64 0) (.int .u64 0) 42 := by rw [hV]; exact (b4).alloc _
  have b5N : Box2 V31 (w.heap.size + 1 + 1 + 1) (.int .i64 0) (.int .u64 0) 42 := by rw [hV]; exact (b5).alloc _
  replace xw : Ext w V31 := by rw [hV]; exact Ext.alloc (xw)
  replace b2 := b2N; clear b2N
  replace b3 := b3N; clear b3N
  replace b4 := b4N; clear b4N
  replace b5 := b5N; clear b5N
  have b7 : Box2 V31 w30.heap.size (.int .u64 (hi (A : Int))) (.int .u64 (lo (A : Int))) 139 := by rw [hV]; exact Box2.new rfl
  clear hV
  have b3_c0 := b3.c0
  have b3_c1 := b3.c1
  go_wp2_with fail
  refine (HPar.out d _ hd).mono ?_
  rw [HD.out]
  rintro e w37 ⟨rfl, x37⟩
  clear b3_c0 b3_c1
  replace b2 := b2.ext x37
  replace b3 := b3.ext x37
  replace b4 := b4.ext x37
  replace b5 := b5.ext x37
  replace b7 := b7.ext x37
  replace xw := Ext.trans xw x37
  go_upto_region 5 with fail
  have o39 := b7.kind.lt
  have o40 := xw.size
  refine wp_name ?_
  intro V38 hV
  have b2N : Box2 V38 w.heap.size (.int .i64 (hi n)) (.int .u64 (lo n)) 42 := by rw [hV]; exact (b2).alloc _
  have b3N : Box2 V38 (w.heap.size + 1) (.int .i64 (hi d)) (.int .u64 (lo d)) 42 := by rw [hV]; exact (b3).alloc _
  have b4N : Box2 V38 (w.heap.size + 1 + 1) (.int .i64 0) (.int .u64 0) 42 := by rw [hV]; exact (b4).alloc _
  have b5N : Box2 V38 (w.heap.size + 1 + 1 + 1) (.int .i64 0) (.int .u64 0) 42 := by rw [hV]; exact (b5).alloc _
  have b7N : Box2 V38 w30.heap.size (.int .u64 (hi (A : Int))) (.int .u64 (lo (A : Int))) 139 := by rw [hV]; exact (b7).alloc _
  replace xw : Ext w V38 := by rw [hV]; exact Ext.alloc (xw)
  replace b2 := b2N; clear b2N
  replace b3 := b3N; clear b3N
  replace b4 := b4N; clear b4N
  replace b5 := b5N; clear b5N
  replace b7 := b7N; clear b7N
  have b9 : Box2 V38 w37.heap.size (.int .u64 (hi (D : Int))) (.int .u64 (lo (D : Int))) 139 := by rw [hV]; exact Box2.new rfl
  clear hV
  have b7_c0 := b7.c0
  have b7_c1 := b7.c1
  have b9_c0 := b9.c0
  have b9_c1 := b9.c1
  go_wp2_with fail
  refine (HGc.out 170141183460469231731687303715884105728 A D _ HBd.out.1 HBd.out.2 HOT.out).mono ?_
  rw [HG.out]
  rintro e w41 ⟨rfl, x41⟩
  clear b7_c0 b7_c1 b9_c0 b9_c1
  replace b2 := b2.ext x41
  replace b3 := b3.ext x41
  replace b4 := b4.ext x41
  replace b5 := b5.ext x41
  replace b7 := b7.ext x41
  replace b9 := b9.ext x41
  replace xw := Ext.trans xw x41
  go_upto_region 6 with fail
  have o43 := b9.kind.lt
  have o44 := xw.size
  refine wp_name ?_
  intro V42 hV
  have b2N : Box2 V42 w.heap.size (.int .i64 (hi n)) (.int .u64 (lo n)) 42 := by rw [hV]; exact (b2).alloc _
  have b3N : Box2 V42 (w.heap.size + 1) (.int .i64 (hi d)) (.int .u64 (lo d)) 42 := by rw [hV]; exact (b3).alloc _
  have b4N : Box2 V42 (w.heap.size + 1 + 1) (.int .i64 0) (.int .u64 0) 42 := by rw [hV]; exact (b4).alloc _
  have b5N : Box2 V42 (w.heap.size + 1 + 1 + 1) (.int .i64 0) (.int .u64 0) 42 := by rw [hV]; exact (b5).alloc _
  have b7N : Box2 V42 w30.heap.size (.int .u64 (hi (A : Int))) (.int .u64 (lo (A : Int))) 139 := by rw [hV]; exact (b7).alloc _
  have b9N : Box2 V42 w37.heap.size (.int .u64 (hi (D : Int))) (.int .u64 (lo (D : Int))) 139 := by rw [hV]; exact (b9).alloc _
  replace xw : Ext w V42 := by rw [hV]; exact Ext.alloc (xw)
  replace b2 := b2N; clear b2N
  replace b3 := b3N; clear b3N
  replace b4 := b4N; clear b4N
  replace b5 := b5N; clear b5N
  replace b7 := b7N; clear b7N
  replace b9 := b9N; clear b9N
  have b11 : Box2 V42 w41.heap.size (.int .u64 (hi (G : Int))) (.int .u64 (lo (G : Int))) 139 := by rw [hV]; exact Box2.new rfl
  clear hV
  have b7_c0 := b7.c0
  have b7_c1 := b7.c1
  have b11_c0 := b11.c0
  have b11_c1 := b11.c1
  go_wp2_with fail
  refine (HO1.out _).mono ?_
  rw [HX.out, HR1.out]
  rintro e w45 ⟨rfl, x45⟩
  clear b7_c0 b7_c1 b11_c0 b11_c1
  replace b2 := b2.ext x45
  replace b3 := b3.ext x45
  replace b4 := b4.ext x45
  replace b5 := b5.ext x45
  replace b7 := b7.ext x45
  replace b9 := b9.ext x45
  replace b11 := b11.ext x45
  replace xw := Ext.trans xw x45
  have b7_c0 := b7.c0
  have b7_c1 := b7.c1
  have b7_f0 := b7.f0
  have b7_f1 := b7.f1
  go_upto_region 7 with fail
  clear b7_c0 b7_c1 b7_f0 b7_f1
  refine wp_name ?_
  intro V46 hV
  have b2N : Box2 V46 w.heap.size (.int .i64 (hi n)) (.int .u64 (lo n)) 42 := by rw [hV]; exact ((b2).other (b := w30.heap.size) (by omega) 0 (.int .u64 (hi (X : Int)))).other (b := w30.heap.size) (by omega) 1 (.int .u64 (lo (X : Int)))
  have b3N : Box2 V46 (w.heap.size + 1) (.int .i64 (hi d)) (.int .u64 (lo d)) 42 := by rw [hV]; exact ((b3).other (b := w30.heap.size) (by omega) 0 (.int .u64 (hi (X : Int)))).other (b := w30.heap.size) (by omega) 1 (.int .u64 (lo (X : Int)))
  have b4N : Box2 V46 (w.heap.size + 1 + 1) (.int .i64 0) (.int .u64 0) 42 := by rw [hV]; exact ((b4).other (b := w30.heap.size) (by omega) 0 (.int .u64 (hi (X : Int)))).other (b := w30.heap.size) (by omega) 1 (.int .u64 (lo (X : Int)))
  have b5N : Box2 V46 (w.heap.size + 1 + 1 + 1) (.int .i64 0) (.int .u64 0) 42 := by rw [hV]; exact ((b5).other (b := w30.heap.size) (by omega) 0 (.int .u64 (hi (X : Int)))).other (b := w30.heap.size) (by omega) 1 (.int .u64 (lo (X : Int)))
  have b7N : Box2 V46 w30.heap.size (.int .u64 (hi (X : Int))) (.int .u64 (lo (X : Int))) 139 := by rw [hV]; exact (b7).set (.int .u64 (hi (X : Int))) (.int .u64 (lo (X : Int)))
  have b9N : Box2 V46 w37.heap.size (.int .u64 (hi (D : Int))) (.int .u64 (lo (D : Int))) 139 := by rw [hV]; exact ((b9).other (b := w30.heap.size) (by omega) 0 (.int .u64 (hi (X : Int)))).other (b := w30.heap.size) (by omega) 1 (.int .u64 (lo (X : Int)))
  have b11N : Box2 V46 w41.heap.size (.int .u64 (hi (G : Int))) (.int .u64 (lo (G : Int))) 139 := by rw [hV]; exact ((b11).other (b := w30.heap.size) (by omega) 0 (.int .u64 (hi (X : Int)))).other (b := w30.heap.size) (by omega) 1 (.int .u64 (lo (X : Int)))
  replace xw : Ext w V46 := by rw [hV]; exact Ext.set (Ext.set (xw) (k := w30.heap.size) (o := 0) (u := .int .u64 (hi (X : Int))) (by omega)) (k := w30.heap.size) (o := 1) (u := .int .u64 (lo (X : Int))) (by omega)
  replace b2 := b2N; clear b2N
  replace b3 := b3N; clear b3N
  replace b4 := b4N; clear b4N
  replace b5 := b5N; clear b5N
  replace b7 := b7N; clear b7N
  replace b9 := b9N; clear b9N
  replace b11 := b11N; clear b11N
  clear hV
  have b9_c0 := b9.c0
  have b9_c1 := b9.c1
  have b11_c0 := b11.c0
  have b11_c1 := b11.c1
  go_wp2_with fail
  refine (HO2.out _).mono ?_
  rw [HY.out, HR2.out]
  rintro e w47 ⟨rfl, x47⟩
  clear b9_c0 b9_c1 b11_c0 b11_c1
  replace b2 := b2.ext x47
  replace b3 := b3.ext x47
  replace b4 := b4.ext x47
  replace b5 := b5.ext x47
  replace b7 := b7.ext x47
  replace b9 := b9.ext x47
  replace b11 := b11.ext x47
  replace xw := Ext.trans xw x47
  have b9_c0 := b9.c0
  have b9_c1 := b9.c1
  have b9_f0 := b9.f0
  have b9_f1 := b9.f1
  go_upto_region 8 with fail
  clear b9_c0 b9_c1 b9_f0 b9_f1
  refine wp_name ?_
  intro V48 hV
  have b2N : Box2 V48 w.heap.size (.int .i64 (hi n)) (.int .u64 (lo n)) 42 := by rw [hV]; exact ((b2).other (b := w37.heap.size) (by omega) 0 (.int .u64 (hi (Y : Int)))).other (b := w37.heap.size) (by omega) 1 (.int .u64 (lo (Y : Int)))
  have b3N : Box2 V48 (w.heap.size + 1) (.int .i64 (hi d)) (.int .u64 (lo d)) 42 := by rw [hV]; exact ((b3).other (b := w37.heap.size) (by omega) 0 (.int .u64 (hi (Y : Int)))).other (b := w37.heap.size) (by omega) 1 (.int .u64 (lo (Y : Int)))
  have b4N : Box2 V48 (w.heap.size + 1 + 1) (.int .i64 0) (.int .u64 0) 42 := by rw [hV]; exact ((b4).other (b := w37.heap.size) (by omega) 0 (.int .u64 (hi (Y : Int)))).other (b := w37.heap.size) (by omega) 1 (.int .u64 (lo (Y : Int)))
  have b5N : Box2 V48 (w.heap.size + 1 + 1 + 1) (.int .i64 0) (.int .u64 0) 42 := by rw [hV]; exact ((b5).other (b := w37.heap.size) (by omega) 0 (.int .u64 (hi (Y : Int)))).other (b := w37.heap.size) (by omega) 1 (.int .u64 (lo (Y : Int)))
  have b7N : Box2 V48 w30.heap.size (.int .u64 (hi (X : Int))) (.int .u64 (lo (X : Int))) 139 := by rw [hV]; exact ((b7).other (b := w37.heap.size) (by omega) 0 (.int .u64 (hi (Y : Int)))).other (b := w37.heap.size) (by omega) 1 (.int .u64 (lo (Y : Int)))
  have b9N : Box2 V48 w37.heap.size (.int .u64 (hi (Y : Int))) (.int .u64 (lo (Y : Int))) 139 := by rw [hV]; exact (b9).set (.int .u64 (hi (Y : Int))) (.int .u64 (lo (Y : Int)))
  have b11N : Box2 V48 w41.heap.size (.int .u64 (hi (G : Int))) (.int .u64 (lo (G : Int))) 139 := by rw [hV]; exact ((b11).other (b := w37.heap.size) (by omega) 0 (.int .u64 (hi (Y : Int)))).other (b := w37.heap.size) (by omega) 1 (.int .u64 (lo (Y : Int)))
  replace xw : Ext w V48 := by rw [hV]; exact Ext.set (Ext.set (xw) (k := w37.heap.size) (o := 0) (u := .int .u64 (hi (Y : Int))) (by omega)) (k := w37.heap.size) (o := 1) (u := .int .u64 (lo (Y : Int))) (by omega)
  replace b2 := b2N; clear b2N
  replace b3 := b3N; clear b3N
  replace b4 := b4N; clear b4N
  replace b5 := b5N; clear b5N
  replace b7 := b7N; clear b7N
  replace b9 := b9N; clear b9N
  replace b11 := b11N; clear b11N
  clear hV
  have b7_c0 := b7.c0
  have b7_c1 := b7.c1
  go_wp2_with fail
  refine (HSgd.out _ _ _ HUX.out).mono ?_
  rw [HP.out]
  rintro e w49 ⟨rfl, x49⟩
  rw [thi_yes hP, tlo_yes hP, ter_yes hP]
  clear b7_c0 b7_c1
  replace b2 := b2.ext x49
  replace b3 := b3.ext x49
  replace b4 := b4.ext x49
  replace b5 := b5.ext x49
  replace b7 := b7.ext x49
  replace b9 := b9.ext x49
  replace b11 := b11.ext x49
  replace xw := Ext.trans xw x49
  go_upto_region 9 with fail
  have o51 := b11.kind.lt
  have o52 := xw.size
  refine wp_name ?_
  intro V50 hV
  have b2N : Box2 V50 w.heap.size (.int .i64 (hi n)) (.int .u64 (lo n)) 42 := by rw [hV]; exact (b2).alloc _
  have b3N : Box2 V50 (w.heap.size + 1) (.int .i64 (hi d)) (.int .u64 (lo d)) 42 := by rw [hV]; exact (b3).alloc _
  have b4N : Box2 V50 (w.heap.size + 1 + 1) (.int .i64 0) (.int .u64 0) 42 := by rw [hV]; exact (b4).alloc _
  have b5N : Box2 V50 (w.heap.size + 1 + 1 + 1) (.int .i64 0) (.int .u64 0) 42 := by rw [hV]; exact (b5).alloc _
  have b7N : Box2 V50 w30.heap.size (.int .u64 (hi (X : Int))) (.int .u64 (lo (X : Int))) 139 := by rw [hV]; exact (b7).alloc _
  have b9N : Box2 V50 w37.heap.size (.int .u64 (hi (Y : Int))) (.int .u64 (lo (Y : Int))) 139 := by rw [hV]; exact (b9).alloc _
  have b11N : Box2 V50 w41.heap.size (.int .u64 (hi (G : Int))) (.int .u64 (lo (G : Int))) 139 := by rw [hV]; exact (b11).alloc _
  replace xw : Ext w V50 := by rw [hV]; exact Ext.alloc (xw)
  replace b2 := b2N; clear b2N
  replace b3 := b3N; clear b3N
  replace b4 := b4N; clear b4N
  replace b5 := b5N; clear b5N
  replace b7 := b7N; clear b7N
  replace b9 := b9N; clear b9N
  replace b11 := b11N; clear b11N
  have b12 : Box2 V50 w49.heap.size (.int .i64 (hi (frP n d))) (.int .u64 (lo (frP n d))) 42 := by rw [hV]; exact Box2.new rfl
  clear hV
  have b9_c0 := b9.c0
  have b9_c1 := b9.c1
  go_wp2_with fail
  refine (HSgd.out _ _ _ HUY.out).mono ?_
  rw [HQ.out]
  rintro e w53 ⟨rfl, x53⟩
  rw [thi_yes hQ, tlo_yes hQ, ter_yes hQ]
  clear b9_c0 b9_c1
  replace b2 := b2.ext x53
  replace b3 := b3.ext x53
  replace b4 := b4.ext x53
  replace b5 := b5.ext x53
  replace b7 := b7.ext x53
  replace b9 := b9.ext x53
  replace b11 := b11.ext x53
  replace b12 := b12.ext x53
  replace xw := Ext.trans xw x53
  go_upto_region 10 with fail
  have o55 := b12.kind.lt
  have o56 := xw.size
  refine wp_name ?_
  intro V54 hV
  have b2N : Box2 V54 w.heap.size (.int .i64 (hi n)) (.int .u64 (lo n)) 42 := by rw [hV]; exact (b2).alloc _
  have b3N : Box2 V54 (w.heap.size + 1) (.int .i64 (hi d)) (.int .u64 (lo d)) 42 := by rw [hV]; exact (b3).alloc _
  have b4N : Box2 V54 (w.heap.size + 1 + 1) (.int .i64 0) (.int .u64 0) 42 := by rw [hV]; exact (b4).alloc _
  have b5N : Box2 V54 (w.heap.size + 1 + 1 + 1) (.int .i64 0) (.int .u64 0) 42 := by rw [hV]; exact (b5).alloc _
  have b7N : Box2 V54 w30.heap.size (.int .u64 (hi (X : Int))) (.int .u64 (lo (X : Int))) 139 := by rw [hV]; exact (b7).alloc _
  have b9N : Box2 V54 w37.heap.size (.int .u64 (hi (Y : Int))) (.int .u64 (lo (Y : Int))) 139 := by rw [hV]; exact (b9).alloc _
  have b11N : Box2 V54 w41.heap.size (.int .u64 (hi (G : Int))) (.int .u64 (lo (G : Int))) 139 := by rw [hV]; exact (b11).alloc _
  have b12N : Box2 V54 w49.heap.size (.int .i64 (hi (frP n d))) (.int .u64 (lo (frP n d))) 42 := by rw [hV]; exact (b12).alloc _
  replace xw : Ext w V54 := by rw [hV]; exact Ext.alloc (xw)
  replace b2 := b2N; clear b2N
  replace b3 := b3N; clear b3N
  replace b4 := b4N; clear b4N
  replace b5 := b5N; clear b5N
  replace b7 := b7N; clear b7N
  replace b9 := b9N; clear b9N
  replace b11 := b11N; clear b11N
  replace b12 := b12N; clear b12N
  have b14 : Box2 V54 w53.heap.size (.int .i64 (hi (frQ n d))) (.int .u64 (lo (frQ n d))) 42 := by rw [hV]; exact Box2.new rfl
  clear hV
  go_upto_region 12 with fail
  have b12_c0 := b12.c0
  have b12_c1 := b12.c1
  have b14_c0 := b14.c0
  have b14_c1 := b14.c1
  have b4_c0 := b4.c0
  have b4_c1 := b4.c1
  have b4_f0 := b4.f0
  have b4_f1 := b4.f1
  have b5_c0 := b5.c0
  have b5_c1 := b5.c1
  have b5_f0 := b5.f0
  have b5_f1 := b5.f1
  have ne4_5 : ¬ w.heap.size + 1 + 1 = w.heap.size + 1 + 1 + 1 := by omega
  have ne5_4 : ¬ w.heap.size + 1 + 1 + 1 = w.heap.size + 1 + 1 := by omega
  have ne4_12 : ¬ w.heap.size + 1 + 1 = w49.heap.size := by omega
  have ne12_4 : ¬ w49.heap.size = w.heap.size + 1 + 1 := by omega
  have ne4_14 : ¬ w.heap.size + 1 + 1 = w53.heap.size := by omega
  have ne14_4 : ¬ w53.heap.size = w.heap.size + 1 + 1 := by omega
  have ne5_12 : ¬ w.heap.size + 1 + 1 + 1 = w49.heap.size := by omega
  have ne12_5 : ¬ w49.heap.size = w.heap.size + 1 + 1 + 1 := by omega
  have ne5_14 : ¬ w.heap.size + 1 + 1 + 1 = w53.heap.size := by omega
  have ne14_5 : ¬ w53.heap.size = w.heap.size + 1 + 1 + 1 := by omega
  go_region
  clear ne4_5 ne5_4 ne4_12 ne12_4 ne4_14 ne14_4 ne5_12 ne12_5 ne5_14 ne14_5
  have xr := Ext.drew (Ext.set (Ext.set (Ext.set (Ext.set (xw) (k := w.heap.size + 1 + 1) (o := 0) (u := .int .i64 (hi (frP n d))) (by omega)) (k := w.heap.size + 1 + 1) (o := 1) (u := .int .u64 (lo (frP n d))) (by omega)) (k := w.heap.size + 1 + 1 + 1) (o := 0) (u := .int .i64 (hi (frQ n d))) (by omega)) (k := w.heap.size + 1 + 1 + 1) (o := 1) (u := .int .u64 (lo (frQ n d))) (by omega))
  go_wp2_with fail
  refine bodyPost_ret (v := .tuple #[.agg #[.int .i64 (hi (frP n d)), .int .u64 (lo (frP n d))], .agg #[.int .i64 (hi (frQ n d)), .int .u64 (lo (frQ n d))], .int .i64 0]) (by simp [results, Tryz.results41, go_sem, b4_c0, b4_c1, b5_c0, b5_c1]) rfl (retFr_yes ⟨H0.out, hP, hQ⟩ xr)
set_option maxRecDepth 100000 in
set_option maxHeartbeats 3200000 in
theorem dfrac_no1 (n d : Int) (w : World) (hn : W128 n) (hd : W128 d) (h0 : d ≠ 0) (hP : ¬ W128 (frP n d)) :
  Calls Tryz.prog 41 #[.agg #[.int .i64 (hi n), .int .u64 (lo n)], .agg #[.int .i64 (hi d), .int .u64 (lo d)]] w (RetFr w n d) := by
 have HPar := Lib.hid dparts
 have HGc := Lib.hid dgcd
 have HSgd := Lib.hid dsigned
 have HOT := Lib.hid (overTo_all (M := 170141183460469231731687303715884105728) (Nat.le_refl _))
 have HBd := Lib.hid (show n.natAbs ≤ 170141183460469231731687303715884105728 ∧ d.natAbs ≤ 170141183460469231731687303715884105728 by unfold W128 at hn hd; omega)
 obtain ⟨A, hA⟩ : ∃ A : Nat, A = n.natAbs := ⟨_, rfl⟩
 obtain ⟨D, hD⟩ : ∃ D : Nat, D = d.natAbs := ⟨_, rfl⟩
 obtain ⟨G, hG⟩ : ∃ G : Nat, G = Nat.gcd A D := ⟨_, rfl⟩
 obtain ⟨X, hX⟩ : ∃ X : Nat, X = A / G := ⟨_, rfl⟩
 obtain ⟨Y, hY⟩ : ∃ Y : Nat, Y = D / G := ⟨_, rfl⟩
 have hg : 0 < G := by rw [hG, hA, hD]; exact gcd_pos h0
 have hg2 : G ≤ D := by rw [hG]; exact Nat.gcd_le_right _ (by omega)
 rw [← hA, ← hD] at HBd
 have HA := Lib.hid (show mag n = (A : Int) by rw [hA]; exact mag_abs n)
 have HD := Lib.hid (show mag d = (D : Int) by rw [hD]; exact mag_abs d)
 have HG := Lib.hid (show ((Nat.gcd A D : Nat) : Int) = (G : Int) by rw [hG])
 have HO1 := Lib.hid (show OverC (A : Int) (G : Int) from HOT.out A G HBd.out.1 hg (Nat.le_trans hg2 HBd.out.2))
 have HO2 := Lib.hid (show OverC (D : Int) (G : Int) from HOT.out D G HBd.out.2 hg (Nat.le_trans hg2 HBd.out.2))
 have HX := Lib.hid (show (A : Int) / (G : Int) = (X : Int) by rw [hX]; omega)
 have HY := Lib.hid (show (D : Int) / (G : Int) = (Y : Int) by rw [hY]; omega)
 have HUX := Lib.hid (show U128 (X : Int) by have := Nat.div_le_self A G; have := HBd.out.1; unfold U128; omega)
 have HUY := Lib.hid (show U128 (Y : Int) by have := Nat.div_le_self D G; have := HBd.out.2; unfold U128; omega)
 have HP := Lib.hid (show wsg (!(decide (n < 0) == decide (d < 0))) (X : Int) = frP n d by unfold frP; rw [hX, hG, hA, hD])
 have HQ := Lib.hid (show wsg false (Y : Int) = frQ n d by unfold frQ; rw [hY, hG, hA, hD]; rfl)
 obtain ⟨r1, e1⟩ : ∃ r, (A : Int) % (G : Int) = r := ⟨_, rfl⟩
 obtain ⟨r2, e2⟩ : ∃ r, (D : Int) % (G : Int) = r := ⟨_, rfl⟩
 have HR1 := Lib.hid e1
 have HR2 := Lib.hid e2
 obtain ⟨t1, e3⟩ : ∃ r, thi (frQ n d) = r := ⟨_, rfl⟩
 obtain ⟨t2, e4⟩ : ∃ r, tlo (frQ n d) = r := ⟨_, rfl⟩
 obtain ⟨t3, e5⟩ : ∃ r, ter (frQ n d) = r := ⟨_, rfl⟩
 have HT1 := Lib.hid e3
 have HT2 := Lib.hid e4
 have HT3 := Lib.hid e5
 have H0 := Lib.hid h0
 have hz : ¬ (hi d = 0 ∧ lo d = 0) := by rintro ⟨g1, g2⟩; have := hi_lo d; omega
 clear hA hD hG hX hY e1 e2 e3 e4 e5 h0 hg hg2
 by_cases hz1 : hi d = 0
 ·have g1 : (hi d == 0) = true := by simpa using hz1
  have g2 : (lo d == 0) = false := by simpa using fun h => hz ⟨hz1, h⟩
  clear hz hz1
  go_enter Tryz.func41, Tryz.ntmps41
  go_upto_region 1 with fail
  have xw := Ext.refl w
  refine wp_name ?_
  intro V1 hV
  replace xw : Ext w V1 := by rw [hV]; exact Ext.alloc (Ext.alloc (Ext.alloc (Ext.alloc (xw))))
  have b2 : Box2 V1 w.heap.size (.int .i64 (hi n)) (.int .u64 (lo n)) 42 := by rw [hV]; exact (((Box2.new rfl).alloc _).alloc _).alloc _
  have b3 : Box2 V1 (w.heap.size + 1) (.int .i64 (hi d)) (.int .u64 (lo d)) 42 := by rw [hV]; exact ((Box2.new (by simp)).alloc _).alloc _
  have b4 : Box2 V1 (w.heap.size + 1 + 1) (.int .i64 0) (.int .u64 0) 42 := by rw [hV]; exact (Box2.new (by simp)).alloc _
  have b5 : Box2 V1 (w.heap.size + 1 + 1 + 1) (.int .i64 0) (.int .u64 0) 42 := by rw [hV]; exact Box2.new (by simp)
  clear hV
  have b3_c0 := b3.c0
  have b3_c1 := b3.c1
  go_upto_region 3 with fail
  clear b3_c0 b3_c1
  have b2_c0 := b2.c0
  have b2_c1 := b2.c1
  go_wp2_with fail
  refine (HPar.out n _ hn).mono ?_
  rw [HA.out]
  rintro e w2 ⟨rfl, x2⟩
  clear b2_c0 b2_c1
  replace b2 := b2.ext x2
  replace b3 := b3.ext x2
  replace b4 := b4.ext x2
  replace b5 := b5.ext x2
  replace xw := Ext.trans xw x2
  go_upto_region 4 with fail
  have o4 := b2.kind.lt
  have o5 := b3.kind.lt
  have o6 := b4.kind.lt
  have o7 := b5.kind.lt
  have o8 := xw.size
  refine wp_name ?_
  intro V3 hV
  have b2N : Box2 V3 w.heap.size (.int .i64 (hi n)) (.int .u64 (lo n)) 42 := by rw [hV]; exact (b2).alloc _
  have b3N : Box2 V3 (w.heap.size + 1) (.int .i64 (hi d)) (.int .u64 (lo d)) 42 := by rw [hV]; exact (b3).alloc _
  have b4N : Box2 V3 (w.heap.size + 1 + 1) (.int .i64 0) (.int .u64 0) 42 := by rw [hV]; exact (b4).alloc _
  have b5N : Box2 V3 (w.heap.size + 1 + 1 + 1) (.int .i64 0) (.int .u64 0) 42 := by rw [hV]; exact (b5).alloc _
  replace xw : Ext w V3 := by rw [hV]; exact Ext.alloc (xw)
  replace b2 := b2N; clear b2N
  replace b3 := b3N; clear b3N
  replace b4 := b4N; clear b4N
  replace b5 := b5N; clear b5N
  have b7 : Box2 V3 w2.heap.size (.int .u64 (hi (A : Int))) (.int .u64 (lo (A : Int))) 139 := by rw [hV]; exact Box2.new rfl
  clear hV
  have b3_c0 := b3.c0
  have b3_c1 := b3.c1
  go_wp2_with fail
  refine (HPar.out d _ hd).mono ?_
  rw [HD.out]
  rintro e w9 ⟨rfl, x9⟩
  clear b3_c0 b3_c1
  replace b2 := b2.ext x9
  replace b3 := b3.ext x9
  replace b4 := b4.ext x9
  replace b5 := b5.ext x9
  replace b7 := b7.ext x9
  replace xw := Ext.trans xw x9
  go_upto_region 5 with fail
  have o11 := b7.kind.lt
  have o12 := xw.size
  refine wp_name ?_
  intro V10 hV
  have b2N : Box2 V10 w.heap.size (.int .i64 (hi n)) (.int .u64 (lo n)) 42 := by rw [hV]; exact (b2).alloc _
  have b3N : Box2 V10 (w.heap.size + 1) (.int .i64 (hi d)) (.int .u64 (lo d)) 42 := by rw [hV]; exact (b3).alloc _
  have b4N : Box2 V10 (w.heap.size + 1 + 1) (.int .i64 0) (.int .u64 0) 42 := by rw [hV]; exact (b4).alloc _
  have b5N : Box2 V10 (w.heap.size + 1 + 1 + 1) (.int .i64 0) (.int .u64 0) 42 := by rw [hV]; exact (b5).alloc _
  have b7N : Box2 V10 w2.heap.size (.int .u64 (hi (A : Int))) (.int .u64 (lo (A : Int))) 139 := by rw [hV]; exact (b7).alloc _
  replace xw : Ext w V10 := by rw [hV]; exact Ext.alloc (xw)
  replace b2 := b2N; clear b2N
  replace b3 := b3N; clear b3N
  replace b4 := b4N; clear b4N
  replace b5 := b5N; clear b5N
  replace b7 := b7N; clear b7N
  have b9 : Box2 V10 w9.heap.size (.int .u64 (hi (D : Int))) (.int .u64 (lo (D : Int))) 139 := by rw [hV]; exact Box2.new rfl
  clear hV
  have b7_c0 := b7.c0
  have b7_c1 := b7.c1
  have b9_c0 := b9.c0
  have b9_c1 := b9.c1
  go_wp2_with fail
  refine (HGc.out 170141183460469231731687303715884105728 A D _ HBd.out.1 HBd.out.2 HOT.out).mono ?_
  rw [HG.out]
  rintro e w13 ⟨rfl, x13⟩
  clear b7_c0 b7_c1 b9_c0 b9_c1
  replace b2 := b2.ext x13
  replace b3 := b3.ext x13
  replace b4 := b4.ext x13
  replace b5 := b5.ext x13
  replace b7 := b7.ext x13
  replace b9 := b9.ext x13
  replace xw := Ext.trans xw x13
  go_upto_region 6 with fail
  have o15 := b9.kind.lt
  have o16 := xw.size
  refine wp_name ?_
  intro V14 hV
  have b2N : Box2 V14 w.heap.size (.int .i64 (hi n)) (.int .u64 (lo n)) 42 := by rw [hV]; exact (b2).alloc _
  have b3N : Box2 V14 (w.heap.size + 1) (.int .i64 (hi d)) (.int .u64 (lo d)) 42 := by rw [hV]; exact (b3).alloc _
  have b4N : Box2 V14 (w.heap.size + 1 + 1) (.int .i64 0) (.int .u64 0) 42 := by rw [hV]; exact (b4).alloc _
  have b5N : Box2 V14 (w.heap.size + 1 + 1 + 1) (.int .i64 0) (.int .u64 0) 42 := by rw [hV]; exact (b5).alloc _
  have b7N : Box2 V14 w2.heap.size (.int .u64 (hi (A : Int))) (.int .u64 (lo (A : Int))) 139 := by rw [hV]; exact (b7).alloc _
  have b9N : Box2 V14 w9.heap.size (.int .u64 (hi (D : Int))) (.int .u64 (lo (D : Int))) 139 := by rw [hV]; exact (b9).alloc _
  replace xw : Ext w V14 := by rw [hV]; exact Ext.alloc (xw)
  replace b2 := b2N; clear b2N
  replace b3 := b3N; clear b3N
  replace b4 := b4N; clear b4N
  replace b5 := b5N; clear b5N
  replace b7 := b7N; clear b7N
  replace b9 := b9N; clear b9N
  have b11 : Box2 V14 w13.heap.size (.int .u64 (hi (G : Int))) (.int .u64 (lo (G : Int))) 139 := by rw [hV]; exact Box2.new rfl
  clear hV
  have b7_c0 := b7.c0
  have b7_c1 := b7.c1
  have b11_c0 := b11.c0
  have b11_c1 := b11.c1
  go_wp2_with fail
  refine (HO1.out _).mono ?_
  rw [HX.out, HR1.out]
  rintro e w17 ⟨rfl, x17⟩
  clear b7_c0 b7_c1 b11_c0 b11_c1
  replace b2 := b2.ext x17
  replace b3 := b3.ext x17
  replace b4 := b4.ext x17
  replace b5 := b5.ext x17
  replace b7 := b7.ext x17
  replace b9 := b9.ext x17
  replace b11 := b11.ext x17
  replace xw := Ext.trans xw x17
  have b7_c0 := b7.c0
  have b7_c1 := b7.c1
  have b7_f0 := b7.f0
  have b7_f1 := b7.f1
  go_upto_region 7 with fail
  clear b7_c0 b7_c1 b7_f0 b7_f1
  refine wp_name ?_
  intro V18 hV
  have b2N : Box2 V18 w.heap.size (.int .i64 (hi n)) (.int .u64 (lo n)) 42 := by rw [hV]; exact ((b2).other (b := w2.heap.size) (by omega) 0 (.int .u64 (hi (X : Int)))).other (b := w2.heap.size) (by omega) 1 (.int .u64 (lo (X : Int)))
  have b3N : Box2 V18 (w.heap.size + 1) (.int .i64 (hi d)) (.int .u64 (lo d)) 42 := by rw [hV]; exact ((b3).other (b := w2.heap.size) (by omega) 0 (.int .u64 (hi (X : Int)))).other (b := w2.heap.size) (by omega) 1 (.int .u64 (lo (X : Int)))
  have b4N : Box2 V18 (w.heap.size + 1 + 1) (.int .i64 0) (.int .u64 0) 42 := by rw [hV]; exact ((b4).other (b := w2.heap.size) (by omega) 0 (.int .u64 (hi (X : Int)))).other (b := w2.heap.size) (by omega) 1 (.int .u64 (lo (X : Int)))
  have b5N : Box2 V18 (w.heap.size + 1 + 1 + 1) (.int .i64 0) (.int .u64 0) 42 := by rw [hV]; exact ((b5).other (b := w2.heap.size) (by omega) 0 (.int .u64 (hi (X : Int)))).other (b := w2.heap.size) (by omega) 1 (.int .u64 (lo (X : Int)))
  have b7N : Box2 V18 w2.heap.size (.int .u64 (hi (X : Int))) (.int .u64 (lo (X : Int))) 139 := by rw [hV]; exact (b7).set (.int .u64 (hi (X : Int))) (.int .u64 (lo (X : Int)))
  have b9N : Box2 V18 w9.heap.size (.int .u64 (hi (D : Int))) (.int .u64 (lo (D : Int))) 139 := by rw [hV]; exact ((b9).other (b := w2.heap.size) (by omega) 0 (.int .u64 (hi (X : Int)))).other (b := w2.heap.size) (by omega) 1 (.int .u64 (lo (X : Int)))
  have b11N : Box2 V18 w13.heap.size (.int .u64 (hi (G : Int))) (.int .u64 (lo (G : Int))) 139 := by rw [hV]; exact ((b11).other (b := w2.heap.size) (by omega) 0 (.int .u64 (hi (X : Int)))).other (b := w2.heap.size) (by omega) 1 (.int .u64 (lo (X : Int)))
  replace xw : Ext w V18 := by rw [hV]; exact Ext.set (Ext.set (xw) (k := w2.heap.size) (o := 0) (u := .int .u64 (hi (X : Int))) (by omega)) (k := w2.heap.size) (o := 1) (u := .int .u64 (lo (X : Int))) (by omega)
  replace b2 := b2N; clear b2N
  replace b3 := b3N; clear b3N
  replace b4 := b4N; clear b4N
  replace b5 := b5N; clear b5N
  replace b7 := b7N; clear b7N
  replace b9 := b9N; clear b9N
  replace b11 := b11N; clear b11N
  clear hV
  have b9_c0 := b9.c0
  have b9_c1 := b9.c1
  have b11_c0 := b11.c0
  have b11_c1 := b11.c1
  go_wp2_with fail
  refine (HO2.out _).mono ?_
  rw [HY.out, HR2.out]
  rintro e w19 ⟨rfl, x19⟩
  clear b9_c0 b9_c1 b11_c0 b11_c1
  replace b2 := b2.ext x19
  replace b3 := b3.ext x19
  replace b4 := b4.ext x19
  replace b5 := b5.ext x19
  replace b7 := b7.ext x19
  replace b9 := b9.ext x19
  replace b11 := b11.ext x19
  replace xw := Ext.trans xw x19
  have b9_c0 := b9.c0
  have b9_c1 := b9.c1
  have b9_f0 := b9.f0
  have b9_f1 := b9.f1
  go_upto_region 8 with fail
  clear b9_c0 b9_c1 b9_f0 b9_f1
  refine wp_name ?_
  intro V20 hV
  have b2N : Box2 V20 w.heap.size (.int .i64 (hi n)) (.int .u64 (lo n)) 42 := by rw [hV]; exact ((b2).other (b := w9.heap.size) (by omega) 0 (.int .u64 (hi (Y : Int)))).other (b := w9.heap.size) (by omega) 1 (.int .u64 (lo (Y : Int)))
  have b3N : Box2 V20 (w.heap.size + 1) (.int .i64 (hi d)) (.int .u64 (lo d)) 42 := by rw [hV]; exact ((b3).other (b := w9.heap.size) (by omega) 0 (.int .u64 (hi (Y : Int)))).other (b := w9.heap.size) (by omega) 1 (.int .u64 (lo (Y : Int)))
  have b4N : Box2 V20 (w.heap.size + 1 + 1) (.int .i64 0) (.int .u64 0) 42 := by rw [hV]; exact ((b4).other (b := w9.heap.size) (by omega) 0 (.int .u64 (hi (Y : Int)))).other (b := w9.heap.size) (by omega) 1 (.int .u64 (lo (Y : Int)))
  have b5N : Box2 V20 (w.heap.size + 1 + 1 + 1) (.int .i64 0) (.int .u64 0) 42 := by rw [hV]; exact ((b5).other (b := w9.heap.size) (by omega) 0 (.int .u64 (hi (Y : Int)))).other (b := w9.heap.size) (by omega) 1 (.int .u64 (lo (Y : Int)))
  have b7N : Box2 V20 w2.heap.size (.int .u64 (hi (X : Int))) (.int .u64 (lo (X : Int))) 139 := by rw [hV]; exact ((b7).other (b := w9.heap.size) (by omega) 0 (.int .u64 (hi (Y : Int)))).other (b := w9.heap.size) (by omega) 1 (.int .u64 (lo (Y : Int)))
  have b9N : Box2 V20 w9.heap.size (.int .u64 (hi (Y : Int))) (.int .u64 (lo (Y : Int))) 139 := by rw [hV]; exact (b9).set (.int .u64 (hi (Y : Int))) (.int .u64 (lo (Y : Int)))
  have b11N : Box2 V20 w13.heap.size (.int .u64 (hi (G : Int))) (.int .u64 (lo (G : Int))) 139 := by rw [hV]; exact ((b11).other (b := w9.heap.size) (by omega) 0 (.int .u64 (hi (Y : Int)))).other (b := w9.heap.size) (by omega) 1 (.int .u64 (lo (Y : Int)))
  replace xw : Ext w V20 := by rw [hV]; exact Ext.set (Ext.set (xw) (k := w9.heap.size) (o := 0) (u := .int .u64 (hi (Y : Int))) (by omega)) (k := w9.heap.size) (o := 1) (u := .int .u64 (lo (Y : Int))) (by omega)
  replace b2 := b2N; clear b2N
  replace b3 := b3N; clear b3N
  replace b4 := b4N; clear b4N
  replace b5 := b5N; clear b5N
  replace b7 := b7N; clear b7N
  replace b9 := b9N; clear b9N
  replace b11 := b11N; clear b11N
  clear hV
  have b7_c0 := b7.c0
  have b7_c1 := b7.c1
  go_wp2_with fail
  refine (HSgd.out _ _ _ HUX.out).mono ?_
  rw [HP.out]
  rintro e w21 ⟨rfl, x21⟩
  rw [thi_no hP, tlo_no hP, ter_no hP]
  clear b7_c0 b7_c1
  replace b2 := b2.ext x21
  replace b3 := b3.ext x21
  replace b4 := b4.ext x21
  replace b5 := b5.ext x21
  replace b7 := b7.ext x21
  replace b9 := b9.ext x21
  replace b11 := b11.ext x21
  replace xw := Ext.trans xw x21
  go_upto_region 9 with fail
  have o23 := b11.kind.lt
  have o24 := xw.size
  refine wp_name ?_
  intro V22 hV
  have b2N : Box2 V22 w.heap.size (.int .i64 (hi n)) (.int .u64 (lo n)) 42 := by rw [hV]; exact (b2).alloc _
  have b3N : Box2 V22 (w.heap.size + 1) (.int .i64 (hi d)) (.int .u64 (lo d)) 42 := by rw [hV]; exact (b3).alloc _
  have b4N : Box2 V22 (w.heap.size + 1 + 1) (.int .i64 0) (.int .u64 0) 42 := by rw [hV]; exact (b4).alloc _
  have b5N : Box2 V22 (w.heap.size + 1 + 1 + 1) (.int .i64 0) (.int .u64 0) 42 := by rw [hV]; exact (b5).alloc _
  have b7N : Box2 V22 w2.heap.size (.int .u64 (hi (X : Int))) (.int .u64 (lo (X : Int))) 139 := by rw [hV]; exact (b7).alloc _
  have b9N : Box2 V22 w9.heap.size (.int .u64 (hi (Y : Int))) (.int .u64 (lo (Y : Int))) 139 := by rw [hV]; exact (b9).alloc _
  have b11N : Box2 V22 w13.heap.size (.int .u64 (hi (G : Int))) (.int .u64 (lo (G : Int))) 139 := by rw [hV]; exact (b11).alloc _
  replace xw : Ext w V22 := by rw [hV]; exact Ext.alloc (xw)
  replace b2 := b2N; clear b2N
  replace b3 := b3N; clear b3N
  replace b4 := b4N; clear b4N
  replace b5 := b5N; clear b5N
  replace b7 := b7N; clear b7N
  replace b9 := b9N; clear b9N
  replace b11 := b11N; clear b11N
  have b12 : Box2 V22 w21.heap.size (.int .i64 0) (.int .u64 0) 42 := by rw [hV]; exact Box2.new rfl
  clear hV
  have b9_c0 := b9.c0
  have b9_c1 := b9.c1
  go_wp2_with fail
  refine (HSgd.out _ _ _ HUY.out).mono ?_
  rw [HQ.out]
  rintro e w25 ⟨rfl, x25⟩
  rw [HT1.out, HT2.out, HT3.out]
  clear b9_c0 b9_c1
  replace b2 := b2.ext x25
  replace b3 := b3.ext x25
  replace b4 := b4.ext x25
  replace b5 := b5.ext x25
  replace b7 := b7.ext x25
  replace b9 := b9.ext x25
  replace b11 := b11.ext x25
  replace b12 := b12.ext x25
  replace xw := Ext.trans xw x25
  go_upto_region 10 with fail
  have o27 := b12.kind.lt
  have o28 := xw.size
  refine wp_name ?_
  intro V26 hV
  have b2N : Box2 V26 w.heap.size (.int .i64 (hi n)) (.int .u64 (lo n)) 42 := by rw [hV]; exact (b2).alloc _
  have b3N : Box2 V26 (w.heap.size + 1) (.int .i64 (hi d)) (.int .u64 (lo d)) 42 := by rw [hV]; exact (b3).alloc _
  have b4N : Box2 V26 (w.heap.size + 1 + 1) (.int .i64 0) (.int .u64 0) 42 := by rw [hV]; exact (b4).alloc _
  have b5N : Box2 V26 (w.heap.size + 1 + 1 + 1) (.int .i64 0) (.int .u64 0) 42 := by rw [hV]; exact (b5).alloc _
  have b7N : Box2 V26 w2.heap.size (.int .u64 (hi (X : Int))) (.int .u64 (lo (X : Int))) 139 := by rw [hV]; exact (b7).alloc _
  have b9N : Box2 V26 w9.heap.size (.int .u64 (hi (Y : Int))) (.int .u64 (lo (Y : Int))) 139 := by rw [hV]; exact (b9).alloc _
  have b11N : Box2 V26 w13.heap.size (.int .u64 (hi (G : Int))) (.int .u64 (lo (G : Int))) 139 := by rw [hV]; exact (b11).alloc _
  have b12N : Box2 V26 w21.heap.size (.int .i64 0) (.int .u64 0) 42 := by rw [hV]; exact (b12).alloc _
  replace xw : Ext w V26 := by rw [hV]; exact Ext.alloc (xw)
  replace b2 := b2N; clear b2N
  replace b3 := b3N; clear b3N
  replace b4 := b4N; clear b4N
  replace b5 := b5N; clear b5N
  replace b7 := b7N; clear b7N
  replace b9 := b9N; clear b9N
  replace b11 := b11N; clear b11N
  replace b12 := b12N; clear b12N
  have b14 : Box2 V26 w25.heap.size (.int .i64 t1) (.int .u64 t2) 42 := by rw [hV]; exact Box2.new rfl
  clear hV
  go_upto_region 11 with fail
  have b4_c0 := b4.c0
  have b4_c1 := b4.c1
  have b4_f0 := b4.f0
  have b4_f1 := b4.f1
  have b5_c0 := b5.c0
  have b5_c1 := b5.c1
  have b5_f0 := b5.f0
  have b5_f1 := b5.f1
  have xr := Ext.set (Ext.set (Ext.set (Ext.set (xw) (k := w.heap.size + 1 + 1) (o := 0) (u := .int .i64 0) (by omega)) (k := w.heap.size + 1 + 1) (o := 1) (u := .int .u64 0) (by omega)) (k := w.heap.size + 1 + 1 + 1) (o := 0) (u := .int .i64 0) (by omega)) (k := w.heap.size + 1 + 1 + 1) (o := 1) (u := .int .u64 0) (by omega)
  go_wp2_with fail
  refine bodyPost_ret (v := .tuple #[.agg #[.int .i64 0, .int .u64 0], .agg #[.int .i64 0, .int .u64 0], .int .i64 2]) (by simp [results, Tryz.results41, go_sem, b4_c0, b4_c1, b5_c0, b5_c1]) rfl (retFr_no H0.out (fun h => hP h.2.1) xr)
 ·have g1 : (hi d == 0) = false := by simpa using hz1
  clear hz hz1
  go_enter Tryz.func41, Tryz.ntmps41
  go_upto_region 1 with fail
  have xw := Ext.refl w
  refine wp_name ?_
  intro V29 hV
  replace xw : Ext w V29 := by rw [hV]; exact Ext.alloc (Ext.alloc (Ext.alloc (Ext.alloc (xw))))
  have b2 : Box2 V29 w.heap.size (.int .i64 (hi n)) (.int .u64 (lo n)) 42 := by rw [hV]; exact (((Box2.new rfl).alloc _).alloc _).alloc _
  have b3 : Box2 V29 (w.heap.size + 1) (.int .i64 (hi d)) (.int .u64 (lo d)) 42 := by rw [hV]; exact ((Box2.new (by simp)).alloc _).alloc _
  have b4 : Box2 V29 (w.heap.size + 1 + 1) (.int .i64 0) (.int .u64 0) 42 := by rw [hV]; exact (Box2.new (by simp)).alloc _
  have b5 : Box2 V29 (w.heap.size + 1 + 1 + 1) (.int .i64 0) (.int .u64 0) 42 := by rw [hV]; exact Box2.new (by simp)
  clear hV
  have b3_c0 := b3.c0
  have b3_c1 := b3.c1
  go_upto_region 3 with fail
  clear b3_c0 b3_c1
  have b2_c0 := b2.c0
  have b2_c1 := b2.c1
  go_wp2_with fail
  refine (HPar.out n _ hn).mono ?_
  rw [HA.out]
  rintro e w30 ⟨rfl, x30⟩
  clear b2_c0 b2_c1
  replace b2 := b2.ext x30
  replace b3 := b3.ext x30
  replace b4 := b4.ext x30
  replace b5 := b5.ext x30
  replace xw := Ext.trans xw x30
  go_upto_region 4 with fail
  have o32 := b2.kind.lt
  have o33 := b3.kind.lt
  have o34 := b4.kind.lt
  have o35 := b5.kind.lt
  have o36 := xw.size
  refine wp_name ?_
  intro V31 hV
  have b2N : Box2 V31 w.heap.size (.int .i64 (hi n)) (.int .u64 (lo n)) 42 := by rw [hV]; exact (b2).alloc _
  have b3N : Box2 V31 (w.heap.size + 1) (.int .i64 (hi d)) (.int .u64 (lo d)) 42 := by rw [hV]; exact (b3).alloc _
  have b4N : Box2 V31 (w.heap.size + 1 + 1) (.int .i64 0) (.int .u64 0) 42 := by rw [hV]; exact (b4).alloc _
  have b5N : Box2 V31 (w.heap.size + 1 + 1 + 1) (.int .i64 0) (.int .u64 0) 42 := by rw [hV]; exact (b5).alloc _
  replace xw : Ext w V31 := by rw [hV]; exact Ext.alloc (xw)
  replace b2 := b2N; clear b2N
  replace b3 := b3N; clear b3N
  replace b4 := b4N; clear b4N
  replace b5 := b5N; clear b5N
  have b7 : Box2 V31 w30.heap.size (.int .u64 (hi (A : Int))) (.int .u64 (lo (A : Int))) 139 := by rw [hV]; exact Box2.new rfl
  clear hV
  have b3_c0 := b3.c0
  have b3_c1 := b3.c1
  go_wp2_with fail
  refine (HPar.out d _ hd).mono ?_
  rw [HD.out]
  rintro e w37 ⟨rfl, x37⟩
  clear b3_c0 b3_c1
  replace b2 := b2.ext x37
  replace b3 := b3.ext x37
  replace b4 := b4.ext x37
  replace b5 := b5.ext x37
  replace b7 := b7.ext x37
  replace xw := Ext.trans xw x37
  go_upto_region 5 with fail
  have o39 := b7.kind.lt
  have o40 := xw.size
  refine wp_name ?_
  intro V38 hV
  have b2N : Box2 V38 w.heap.size (.int .i64 (hi n)) (.int .u64 (lo n)) 42 := by rw [hV]; exact (b2).alloc _
  have b3N : Box2 V38 (w.heap.size + 1) (.int .i64 (hi d)) (.int .u64 (lo d)) 42 := by rw [hV]; exact (b3).alloc _
  have b4N : Box2 V38 (w.heap.size + 1 + 1) (.int .i64 0) (.int .u64 0) 42 := by rw [hV]; exact (b4).alloc _
  have b5N : Box2 V38 (w.heap.size + 1 + 1 + 1) (.int .i64 0) (.int .u64 0) 42 := by rw [hV]; exact (b5).alloc _
  have b7N : Box2 V38 w30.heap.size (.int .u64 (hi (A : Int))) (.int .u64 (lo (A : Int))) 139 := by rw [hV]; exact (b7).alloc _
  replace xw : Ext w V38 := by rw [hV]; exact Ext.alloc (xw)
  replace b2 := b2N; clear b2N
  replace b3 := b3N; clear b3N
  replace b4 := b4N; clear b4N
  replace b5 := b5N; clear b5N
  replace b7 := b7N; clear b7N
  have b9 : Box2 V38 w37.heap.size (.int .u64 (hi (D : Int))) (.int .u64 (lo (D : Int))) 139 := by rw [hV]; exact Box2.new rfl
  clear hV
  have b7_c0 := b7.c0
  have b7_c1 := b7.c1
  have b9_c0 := b9.c0
  have b9_c1 := b9.c1
  go_wp2_with fail
  refine (HGc.out 170141183460469231731687303715884105728 A D _ HBd.out.1 HBd.out.2 HOT.out).mono ?_
  rw [HG.out]
  rintro e w41 ⟨rfl, x41⟩
  clear b7_c0 b7_c1 b9_c0 b9_c1
  replace b2 := b2.ext x41
  replace b3 := b3.ext x41
  replace b4 := b4.ext x41
  replace b5 := b5.ext x41
  replace b7 := b7.ext x41
  replace b9 := b9.ext x41
  replace xw := Ext.trans xw x41
  go_upto_region 6 with fail
  have o43 := b9.kind.lt
  have o44 := xw.size
  refine wp_name ?_
  intro V42 hV
  have b2N : Box2 V42 w.heap.size (.int .i64 (hi n)) (.int .u64 (lo n)) 42 := by rw [hV]; exact (b2).alloc _
  have b3N : Box2 V42 (w.heap.size + 1) (.int .i64 (hi d)) (.int .u64 (lo d)) 42 := by rw [hV]; exact (b3).alloc _
  have b4N : Box2 V42 (w.heap.size + 1 + 1) (.int .i64 0) (.int .u64 0) 42 := by rw [hV]; exact (b4).alloc _
  have b5N : Box2 V42 (w.heap.size + 1 + 1 + 1) (.int .i64 0) (.int .u64 0) 42 := by rw [hV]; exact (b5).alloc _
  have b7N : Box2 V42 w30.heap.size (.int .u64 (hi (A : Int))) (.int .u64 (lo (A : Int))) 139 := by rw [hV]; exact (b7).alloc _
  have b9N : Box2 V42 w37.heap.size (.int .u64 (hi (D : Int))) (.int .u64 (lo (D : Int))) 139 := by rw [hV]; exact (b9).alloc _
  replace xw : Ext w V42 := by rw [hV]; exact Ext.alloc (xw)
  replace b2 := b2N; clear b2N
  replace b3 := b3N; clear b3N
  replace b4 := b4N; clear b4N
  replace b5 := b5N; clear b5N
  replace b7 := b7N; clear b7N
  replace b9 := b9N; clear b9N
  have b11 : Box2 V42 w41.heap.size (.int .u64 (hi (G : Int))) (.int .u64 (lo (G : Int))) 139 := by rw [hV]; exact Box2.new rfl
  clear hV
  have b7_c0 := b7.c0
  have b7_c1 := b7.c1
  have b11_c0 := b11.c0
  have b11_c1 := b11.c1
  go_wp2_with fail
  refine (HO1.out _).mono ?_
  rw [HX.out, HR1.out]
  rintro e w45 ⟨rfl, x45⟩
  clear b7_c0 b7_c1 b11_c0 b11_c1
  replace b2 := b2.ext x45
  replace b3 := b3.ext x45
  replace b4 := b4.ext x45
  replace b5 := b5.ext x45
  replace b7 := b7.ext x45
  replace b9 := b9.ext x45
  replace b11 := b11.ext x45
  replace xw := Ext.trans xw x45
  have b7_c0 := b7.c0
  have b7_c1 := b7.c1
  have b7_f0 := b7.f0
  have b7_f1 := b7.f1
  go_upto_region 7 with fail
  clear b7_c0 b7_c1 b7_f0 b7_f1
  refine wp_name ?_
  intro V46 hV
  have b2N : Box2 V46 w.heap.size (.int .i64 (hi n)) (.int .u64 (lo n)) 42 := by rw [hV]; exact ((b2).other (b := w30.heap.size) (by omega) 0 (.int .u64 (hi (X : Int)))).other (b := w30.heap.size) (by omega) 1 (.int .u64 (lo (X : Int)))
  have b3N : Box2 V46 (w.heap.size + 1) (.int .i64 (hi d)) (.int .u64 (lo d)) 42 := by rw [hV]; exact ((b3).other (b := w30.heap.size) (by omega) 0 (.int .u64 (hi (X : Int)))).other (b := w30.heap.size) (by omega) 1 (.int .u64 (lo (X : Int)))
  have b4N : Box2 V46 (w.heap.size + 1 + 1) (.int .i64 0) (.int .u64 0) 42 := by rw [hV]; exact ((b4).other (b := w30.heap.size) (by omega) 0 (.int .u64 (hi (X : Int)))).other (b := w30.heap.size) (by omega) 1 (.int .u64 (lo (X : Int)))
  have b5N : Box2 V46 (w.heap.size + 1 + 1 + 1) (.int .i64 0) (.int .u64 0) 42 := by rw [hV]; exact ((b5).other (b := w30.heap.size) (by omega) 0 (.int .u64 (hi (X : Int)))).other (b := w30.heap.size) (by omega) 1 (.int .u64 (lo (X : Int)))
  have b7N : Box2 V46 w30.heap.size (.int .u64 (hi (X : Int))) (.int .u64 (lo (X : Int))) 139 := by rw [hV]; exact (b7).set (.int .u64 (hi (X : Int))) (.int .u64 (lo (X : Int)))
  have b9N : Box2 V46 w37.heap.size (.int .u64 (hi (D : Int))) (.int .u64 (lo (D : Int))) 139 := by rw [hV]; exact ((b9).other (b := w30.heap.size) (by omega) 0 (.int .u64 (hi (X : Int)))).other (b := w30.heap.size) (by omega) 1 (.int .u64 (lo (X : Int)))
  have b11N : Box2 V46 w41.heap.size (.int .u64 (hi (G : Int))) (.int .u64 (lo (G : Int))) 139 := by rw [hV]; exact ((b11).other (b := w30.heap.size) (by omega) 0 (.int .u64 (hi (X : Int)))).other (b := w30.heap.size) (by omega) 1 (.int .u64 (lo (X : Int)))
  replace xw : Ext w V46 := by rw [hV]; exact Ext.set (Ext.set (xw) (k := w30.heap.size) (o := 0) (u := .int .u64 (hi (X : Int))) (by omega)) (k := w30.heap.size) (o := 1) (u := .int .u64 (lo (X : Int))) (by omega)
  replace b2 := b2N; clear b2N
  replace b3 := b3N; clear b3N
  replace b4 := b4N; clear b4N
  replace b5 := b5N; clear b5N
  replace b7 := b7N; clear b7N
  replace b9 := b9N; clear b9N
  replace b11 := b11N; clear b11N
  clear hV
  have b9_c0 := b9.c0
  have b9_c1 := b9.c1
  have b11_c0 := b11.c0
  have b11_c1 := b11.c1
  go_wp2_with fail
  refine (HO2.out _).mono ?_
  rw [HY.out, HR2.out]
  rintro e w47 ⟨rfl, x47⟩
  clear b9_c0 b9_c1 b11_c0 b11_c1
  replace b2 := b2.ext x47
  replace b3 := b3.ext x47
  replace b4 := b4.ext x47
  replace b5 := b5.ext x47
  replace b7 := b7.ext x47
  replace b9 := b9.ext x47
  replace b11 := b11.ext x47
  replace xw := Ext.trans xw x47
  have b9_c0 := b9.c0
  have b9_c1 := b9.c1
  have b9_f0 := b9.f0
  have b9_f1 := b9.f1
  go_upto_region 8 with fail
  clear b9_c0 b9_c1 b9_f0 b9_f1
  refine wp_name ?_
  intro V48 hV
  have b2N : Box2 V48 w.heap.size (.int .i64 (hi n)) (.int .u64 (lo n)) 42 := by rw [hV]; exact ((b2).other (b := w37.heap.size) (by omega) 0 (.int .u64 (hi (Y : Int)))).other (b := w37.heap.size) (by omega) 1 (.int .u64 (lo (Y : Int)))
  have b3N : Box2 V48 (w.heap.size + 1) (.int .i64 (hi d)) (.int .u64 (lo d)) 42 := by rw [hV]; exact ((b3).other (b := w37.heap.size) (by omega) 0 (.int .u64 (hi (Y : Int)))).other (b := w37.heap.size) (by omega) 1 (.int .u64 (lo (Y : Int)))
  have b4N : Box2 V48 (w.heap.size + 1 + 1) (.int .i64 0) (.int .u64 0) 42 := by rw [hV]; exact ((b4).other (b := w37.heap.size) (by omega) 0 (.int .u64 (hi (Y : Int)))).other (b := w37.heap.size) (by omega) 1 (.int .u64 (lo (Y : Int)))
  have b5N : Box2 V48 (w.heap.size + 1 + 1 + 1) (.int .i64 0) (.int .u64 0) 42 := by rw [hV]; exact ((b5).other (b := w37.heap.size) (by omega) 0 (.int .u64 (hi (Y : Int)))).other (b := w37.heap.size) (by omega) 1 (.int .u64 (lo (Y : Int)))
  have b7N : Box2 V48 w30.heap.size (.int .u64 (hi (X : Int))) (.int .u64 (lo (X : Int))) 139 := by rw [hV]; exact ((b7).other (b := w37.heap.size) (by omega) 0 (.int .u64 (hi (Y : Int)))).other (b := w37.heap.size) (by omega) 1 (.int .u64 (lo (Y : Int)))
  have b9N : Box2 V48 w37.heap.size (.int .u64 (hi (Y : Int))) (.int .u64 (lo (Y : Int))) 139 := by rw [hV]; exact (b9).set (.int .u64 (hi (Y : Int))) (.int .u64 (lo (Y : Int)))
  have b11N : Box2 V48 w41.heap.size (.int .u64 (hi (G : Int))) (.int .u64 (lo (G : Int))) 139 := by rw [hV]; exact ((b11).other (b := w37.heap.size) (by omega) 0 (.int .u64 (hi (Y : Int)))).other (b := w37.heap.size) (by omega) 1 (.int .u64 (lo (Y : Int)))
  replace xw : Ext w V48 := by rw [hV]; exact Ext.set (Ext.set (xw) (k := w37.heap.size) (o := 0) (u := .int .u64 (hi (Y : Int))) (by omega)) (k := w37.heap.size) (o := 1) (u := .int .u64 (lo (Y : Int))) (by omega)
  replace b2 := b2N; clear b2N
  replace b3 := b3N; clear b3N
  replace b4 := b4N; clear b4N
  replace b5 := b5N; clear b5N
  replace b7 := b7N; clear b7N
  replace b9 := b9N; clear b9N
  replace b11 := b11N; clear b11N
  clear hV
  have b7_c0 := b7.c0
  have b7_c1 := b7.c1
  go_wp2_with fail
  refine (HSgd.out _ _ _ HUX.out).mono ?_
  rw [HP.out]
  rintro e w49 ⟨rfl, x49⟩
  rw [thi_no hP, tlo_no hP, ter_no hP]
  clear b7_c0 b7_c1
  replace b2 := b2.ext x49
  replace b3 := b3.ext x49
  replace b4 := b4.ext x49
  replace b5 := b5.ext x49
  replace b7 := b7.ext x49
  replace b9 := b9.ext x49
  replace b11 := b11.ext x49
  replace xw := Ext.trans xw x49
  go_upto_region 9 with fail
  have o51 := b11.kind.lt
  have o52 := xw.size
  refine wp_name ?_
  intro V50 hV
  have b2N : Box2 V50 w.heap.size (.int .i64 (hi n)) (.int .u64 (lo n)) 42 := by rw [hV]; exact (b2).alloc _
  have b3N : Box2 V50 (w.heap.size + 1) (.int .i64 (hi d)) (.int .u64 (lo d)) 42 := by rw [hV]; exact (b3).alloc _
  have b4N : Box2 V50 (w.heap.size + 1 + 1) (.int .i64 0) (.int .u64 0) 42 := by rw [hV]; exact (b4).alloc _
  have b5N : Box2 V50 (w.heap.size + 1 + 1 + 1) (.int .i64 0) (.int .u64 0) 42 := by rw [hV]; exact (b5).alloc _
  have b7N : Box2 V50 w30.heap.size (.int .u64 (hi (X : Int))) (.int .u64 (lo (X : Int))) 139 := by rw [hV]; exact (b7).alloc _
  have b9N : Box2 V50 w37.heap.size (.int .u64 (hi (Y : Int))) (.int .u64 (lo (Y : Int))) 139 := by rw [hV]; exact (b9).alloc _
  have b11N : Box2 V50 w41.heap.size (.int .u64 (hi (G : Int))) (.int .u64 (lo (G : Int))) 139 := by rw [hV]; exact (b11).alloc _
  replace xw : Ext w V50 := by rw [hV]; exact Ext.alloc (xw)
  replace b2 := b2N; clear b2N
  replace b3 := b3N; clear b3N
  replace b4 := b4N; clear b4N
  replace b5 := b5N; clear b5N
  replace b7 := b7N; clear b7N
  replace b9 := b9N; clear b9N
  replace b11 := b11N; clear b11N
  have b12 : Box2 V50 w49.heap.size (.int .i64 0) (.int .u64 0) 42 := by rw [hV]; exact Box2.new rfl
  clear hV
  have b9_c0 := b9.c0
  have b9_c1 := b9.c1
  go_wp2_with fail
  refine (HSgd.out _ _ _ HUY.out).mono ?_
  rw [HQ.out]
  rintro e w53 ⟨rfl, x53⟩
  rw [HT1.out, HT2.out, HT3.out]
  clear b9_c0 b9_c1
  replace b2 := b2.ext x53
  replace b3 := b3.ext x53
  replace b4 := b4.ext x53
  replace b5 := b5.ext x53
  replace b7 := b7.ext x53
  replace b9 := b9.ext x53
  replace b11 := b11.ext x53
  replace b12 := b12.ext x53
  replace xw := Ext.trans xw x53
  go_upto_region 10 with fail
  have o55 := b12.kind.lt
  have o56 := xw.size
  refine wp_name ?_
  intro V54 hV
  have b2N : Box2 V54 w.heap.size (.int .i64 (hi n)) (.int .u64 (lo n)) 42 := by rw [hV]; exact (b2).alloc _
  have b3N : Box2 V54 (w.heap.size + 1) (.int .i64 (hi d)) (.int .u64 (lo d)) 42 := by rw [hV]; exact (b3).alloc _
  have b4N : Box2 V54 (w.heap.size + 1 + 1) (.int .i64 0) (.int .u64 0) 42 := by rw [hV]; exact (b4).alloc _
  have b5N : Box2 V54 (w.heap.size + 1 + 1 + 1) (.int .i64 0) (.int .u64 0) 42 := by rw [hV]; exact (b5).alloc _
  have b7N : Box2 V54 w30.heap.size (.int .u64 (hi (X : Int))) (.int .u64 (lo (X : Int))) 139 := by rw [hV]; exact (b7).alloc _
  have b9N : Box2 V54 w37.heap.size (.int .u64 (hi (Y : Int))) (.int .u64 (lo (Y : Int))) 139 := by rw [hV]; exact (b9).alloc _
  have b11N : Box2 V54 w41.heap.size (.int .u64 (hi (G : Int))) (.int .u64 (lo (G : Int))) 139 := by rw [hV]; exact (b11).alloc _
  have b12N : Box2 V54 w49.heap.size (.int .i64 0) (.int .u64 0) 42 := by rw [hV]; exact (b12).alloc _
  replace xw : Ext w V54 := by rw [hV]; exact Ext.alloc (xw)
  replace b2 := b2N; clear b2N
  replace b3 := b3N; clear b3N
  replace b4 := b4N; clear b4N
  replace b5 := b5N; clear b5N
  replace b7 := b7N; clear b7N
  replace b9 := b9N; clear b9N
  replace b11 := b11N; clear b11N
  replace b12 := b12N; clear b12N
  have b14 : Box2 V54 w53.heap.size (.int .i64 t1) (.int .u64 t2) 42 := by rw [hV]; exact Box2.new rfl
  clear hV
  go_upto_region 11 with fail
  have b4_c0 := b4.c0
  have b4_c1 := b4.c1
  have b4_f0 := b4.f0
  have b4_f1 := b4.f1
  have b5_c0 := b5.c0
  have b5_c1 := b5.c1
  have b5_f0 := b5.f0
  have b5_f1 := b5.f1
  have xr := Ext.set (Ext.set (Ext.set (Ext.set (xw) (k := w.heap.size + 1 + 1) (o := 0) (u := .int .i64 0) (by omega)) (k := w.heap.size + 1 + 1) (o := 1) (u := .int .u64 0) (by omega)) (k := w.heap.size + 1 + 1 + 1) (o := 0) (u := .int .i64 0) (by omega)) (k := w.heap.size + 1 + 1 + 1) (o := 1) (u := .int .u64 0) (by omega)
  go_wp2_with fail
  refine bodyPost_ret (v := .tuple #[.agg #[.int .i64 0, .int .u64 0], .agg #[.int .i64 0, .int .u64 0], .int .i64 2]) (by simp [results, Tryz.results41, go_sem, b4_c0, b4_c1, b5_c0, b5_c1]) rfl (retFr_no H0.out (fun h => hP h.2.1) xr)
set_option maxRecDepth 100000 in
set_option maxHeartbeats 3200000 in
theorem dfrac_no2 (n d : Int) (w : World) (hn : W128 n) (hd : W128 d) (h0 : d ≠ 0) (hP : W128 (frP n d)) (hQ : ¬ W128 (frQ n d)) :
  Calls Tryz.prog 41 #[.agg #[.int .i64 (hi n), .int .u64 (lo n)], .agg #[.int .i64 (hi d), .int .u64 (lo d)]] w (RetFr w n d) := by
 have HPar := Lib.hid dparts
 have HGc := Lib.hid dgcd
 have HSgd := Lib.hid dsigned
 have HOT := Lib.hid (overTo_all (M := 170141183460469231731687303715884105728) (Nat.le_refl _))
 have HBd := Lib.hid (show n.natAbs ≤ 170141183460469231731687303715884105728 ∧ d.natAbs ≤ 170141183460469231731687303715884105728 by unfold W128 at hn hd; omega)
 obtain ⟨A, hA⟩ : ∃ A : Nat, A = n.natAbs := ⟨_, rfl⟩
 obtain ⟨D, hD⟩ : ∃ D : Nat, D = d.natAbs := ⟨_, rfl⟩
 obtain ⟨G, hG⟩ : ∃ G : Nat, G = Nat.gcd A D := ⟨_, rfl⟩
 obtain ⟨X, hX⟩ : ∃ X : Nat, X = A / G := ⟨_, rfl⟩
 obtain ⟨Y, hY⟩ : ∃ Y : Nat, Y = D / G := ⟨_, rfl⟩
 have hg : 0 < G := by rw [hG, hA, hD]; exact gcd_pos h0
 have hg2 : G ≤ D := by rw [hG]; exact Nat.gcd_le_right _ (by omega)
 rw [← hA, ← hD] at HBd
 have HA := Lib.hid (show mag n = (A : Int) by rw [hA]; exact mag_abs n)
 have HD := Lib.hid (show mag d = (D : Int) by rw [hD]; exact mag_abs d)
 have HG := Lib.hid (show ((Nat.gcd A D : Nat) : Int) = (G : Int) by rw [hG])
 have HO1 := Lib.hid (show OverC (A : Int) (G : Int) from HOT.out A G HBd.out.1 hg (Nat.le_trans hg2 HBd.out.2))
 have HO2 := Lib.hid (show OverC (D : Int) (G : Int) from HOT.out D G HBd.out.2 hg (Nat.le_trans hg2 HBd.out.2))
 have HX := Lib.hid (show (A : Int) / (G : Int) = (X : Int) by rw [hX]; omega)
 have HY := Lib.hid (show (D : Int) / (G : Int) = (Y : Int) by rw [hY]; omega)
 have HUX := Lib.hid (show U128 (X : Int) by have := Nat.div_le_self A G; have := HBd.out.1; unfold U128; omega)
 have HUY := Lib.hid (show U128 (Y : Int) by have := Nat.div_le_self D G; have := HBd.out.2; unfold U128; omega)
 have HP := Lib.hid (show wsg (!(decide (n < 0) == decide (d < 0))) (X : Int) = frP n d by unfold frP; rw [hX, hG, hA, hD])
 have HQ := Lib.hid (show wsg false (Y : Int) = frQ n d by unfold frQ; rw [hY, hG, hA, hD]; rfl)
 obtain ⟨r1, e1⟩ : ∃ r, (A : Int) % (G : Int) = r := ⟨_, rfl⟩
 obtain ⟨r2, e2⟩ : ∃ r, (D : Int) % (G : Int) = r := ⟨_, rfl⟩
 have HR1 := Lib.hid e1
 have HR2 := Lib.hid e2
 obtain ⟨t1, e3⟩ : ∃ r, thi (frQ n d) = r := ⟨_, rfl⟩
 obtain ⟨t2, e4⟩ : ∃ r, tlo (frQ n d) = r := ⟨_, rfl⟩
 obtain ⟨t3, e5⟩ : ∃ r, ter (frQ n d) = r := ⟨_, rfl⟩
 have HT1 := Lib.hid e3
 have HT2 := Lib.hid e4
 have HT3 := Lib.hid e5
 have H0 := Lib.hid h0
 have hz : ¬ (hi d = 0 ∧ lo d = 0) := by rintro ⟨g1, g2⟩; have := hi_lo d; omega
 clear hA hD hG hX hY e1 e2 e3 e4 e5 h0 hg hg2
 by_cases hz1 : hi d = 0
 ·have g1 : (hi d == 0) = true := by simpa using hz1
  have g2 : (lo d == 0) = false := by simpa using fun h => hz ⟨hz1, h⟩
  clear hz hz1
  go_enter Tryz.func41, Tryz.ntmps41
  go_upto_region 1 with fail
  have xw := Ext.refl w
  refine wp_name ?_
  intro V1 hV
  replace xw : Ext w V1 := by rw [hV]; exact Ext.alloc (Ext.alloc (Ext.alloc (Ext.alloc (xw))))
  have b2 : Box2 V1 w.heap.size (.int .i64 (hi n)) (.int .u64 (lo n)) 42 := by rw [hV]; exact (((Box2.new rfl).alloc _).alloc _).alloc _
  have b3 : Box2 V1 (w.heap.size + 1) (.int .i64 (hi d)) (.int .u64 (lo d)) 42 := by rw [hV]; exact ((Box2.new (by simp)).alloc _).alloc _
  have b4 : Box2 V1 (w.heap.size + 1 + 1) (.int .i64 0) (.int .u64 0) 42 := by rw [hV]; exact (Box2.new (by simp)).alloc _
  have b5 : Box2 V1 (w.heap.size + 1 + 1 + 1) (.int .i64 0) (.int .u64 0) 42 := by rw [hV]; exact Box2.new (by simp)
  clear hV
  have b3_c0 := b3.c0
  have b3_c1 := b3.c1
  go_upto_region 3 with fail
  clear b3_c0 b3_c1
  have b2_c0 := b2.c0
  have b2_c1 := b2.c1
  go_wp2_with fail
  refine (HPar.out n _ hn).mono ?_
  rw [HA.out]
  rintro e w2 ⟨rfl, x2⟩
  clear b2_c0 b2_c1
  replace b2 := b2.ext x2
  replace b3 := b3.ext x2
  replace b4 := b4.ext x2
  replace b5 := b5.ext x2
  replace xw := Ext.trans xw x2
  go_upto_region 4 with fail
  have o4 := b2.kind.lt
  have o5 := b3.kind.lt
  have o6 := b4.kind.lt
  have o7 := b5.kind.lt
  have o8 := xw.size
  refine wp_name ?_
  intro V3 hV
  have b2N : Box2 V3 w.heap.size (.int .i64 (hi n)) (.int .u64 (lo n)) 42 := by rw [hV]; exact (b2).alloc _
  have b3N : Box2 V3 (w.heap.size + 1) (.int .i64 (hi d)) (.int .u64 (lo d)) 42 := by rw [hV]; exact (b3).alloc _
  have b4N : Box2 V3 (w.heap.size + 1 + 1) (.int .i64 0) (.int .u64 0) 42 := by rw [hV]; exact (b4).alloc _
  have b5N : Box2 V3 (w.heap.size + 1 + 1 + 1) (.int .i64 0) (.int .u64 0) 42 := by rw [hV]; exact (b5).alloc _
  replace xw : Ext w V3 := by rw [hV]; exact Ext.alloc (xw)
  replace b2 := b2N; clear b2N
  replace b3 := b3N; clear b3N
  replace b4 := b4N; clear b4N
  replace b5 := b5N; clear b5N
  have b7 : Box2 V3 w2.heap.size (.int .u64 (hi (A : Int))) (.int .u64 (lo (A : Int))) 139 := by rw [hV]; exact Box2.new rfl
  clear hV
  have b3_c0 := b3.c0
  have b3_c1 := b3.c1
  go_wp2_with fail
  refine (HPar.out d _ hd).mono ?_
  rw [HD.out]
  rintro e w9 ⟨rfl, x9⟩
  clear b3_c0 b3_c1
  replace b2 := b2.ext x9
  replace b3 := b3.ext x9
  replace b4 := b4.ext x9
  replace b5 := b5.ext x9
  replace b7 := b7.ext x9
  replace xw := Ext.trans xw x9
  go_upto_region 5 with fail
  have o11 := b7.kind.lt
  have o12 := xw.size
  refine wp_name ?_
  intro V10 hV
  have b2N : Box2 V10 w.heap.size (.int .i64 (hi n)) (.int .u64 (lo n)) 42 := by rw [hV]; exact (b2).alloc _
  have b3N : Box2 V10 (w.heap.size + 1) (.int .i64 (hi d)) (.int .u64 (lo d)) 42 := by rw [hV]; exact (b3).alloc _
  have b4N : Box2 V10 (w.heap.size + 1 + 1) (.int .i64 0) (.int .u64 0) 42 := by rw [hV]; exact (b4).alloc _
  have b5N : Box2 V10 (w.heap.size + 1 + 1 + 1) (.int .i64 0) (.int .u64 0) 42 := by rw [hV]; exact (b5).alloc _
  have b7N : Box2 V10 w2.heap.size (.int .u64 (hi (A : Int))) (.int .u64 (lo (A : Int))) 139 := by rw [hV]; exact (b7).alloc _
  replace xw : Ext w V10 := by rw [hV]; exact Ext.alloc (xw)
  replace b2 := b2N; clear b2N
  replace b3 := b3N; clear b3N
  replace b4 := b4N; clear b4N
  replace b5 := b5N; clear b5N
  replace b7 := b7N; clear b7N
  have b9 : Box2 V10 w9.heap.size (.int .u64 (hi (D : Int))) (.int .u64 (lo (D : Int))) 139 := by rw [hV]; exact Box2.new rfl
  clear hV
  have b7_c0 := b7.c0
  have b7_c1 := b7.c1
  have b9_c0 := b9.c0
  have b9_c1 := b9.c1
  go_wp2_with fail
  refine (HGc.out 170141183460469231731687303715884105728 A D _ HBd.out.1 HBd.out.2 HOT.out).mono ?_
  rw [HG.out]
  rintro e w13 ⟨rfl, x13⟩
  clear b7_c0 b7_c1 b9_c0 b9_c1
  replace b2 := b2.ext x13
  replace b3 := b3.ext x13
  replace b4 := b4.ext x13
  replace b5 := b5.ext x13
  replace b7 := b7.ext x13
  replace b9 := b9.ext x13
  replace xw := Ext.trans xw x13
  go_upto_region 6 with fail
  have o15 := b9.kind.lt
  have o16 := xw.size
  refine wp_name ?_
  intro V14 hV
  have b2N : Box2 V14 w.heap.size (.int .i64 (hi n)) (.int .u64 (lo n)) 42 := by rw [hV]; exact (b2).alloc _
  have b3N : Box2 V14 (w.heap.size + 1) (.int .i64 (hi d)) (.int .u64 (lo d)) 42 := by rw [hV]; exact (b3).alloc _
  have b4N : Box2 V14 (w.heap.size + 1 + 1) (.int .i64 0) (.int .u64 0) 42 := by rw [hV]; exact (b4).alloc _
  have b5N : Box2 V14 (w.heap.size + 1 + 1 + 1) (.int .i64 0) (.int .u64 0) 42 := by rw [hV]; exact (b5).alloc _
  have b7N : Box2 V14 w2.heap.size (.int .u64 (hi (A : Int))) (.int .u64 (lo (A : Int))) 139 := by rw [hV]; exact (b7).alloc _
  have b9N : Box2 V14 w9.heap.size (.int .u64 (hi (D : Int))) (.int .u64 (lo (D : Int))) 139 := by rw [hV]; exact (b9).alloc _
  replace xw : Ext w V14 := by rw [hV]; exact Ext.alloc (xw)
  replace b2 := b2N; clear b2N
  replace b3 := b3N; clear b3N
  replace b4 := b4N; clear b4N
  replace b5 := b5N; clear b5N
  replace b7 := b7N; clear b7N
  replace b9 := b9N; clear b9N
  have b11 : Box2 V14 w13.heap.size (.int .u64 (hi (G : Int))) (.int .u64 (lo (G : Int))) 139 := by rw [hV]; exact Box2.new rfl
  clear hV
  have b7_c0 := b7.c0
  have b7_c1 := b7.c1
  have b11_c0 := b11.c0
  have b11_c1 := b11.c1
  go_wp2_with fail
  refine (HO1.out _).mono ?_
  rw [HX.out, HR1.out]
  rintro e w17 ⟨rfl, x17⟩
  clear b7_c0 b7_c1 b11_c0 b11_c1
  replace b2 := b2.ext x17
  replace b3 := b3.ext x17
  replace b4 := b4.ext x17
  replace b5 := b5.ext x17
  replace b7 := b7.ext x17
  replace b9 := b9.ext x17
  replace b11 := b11.ext x17
  replace xw := Ext.trans xw x17
  have b7_c0 := b7.c0
  have b7_c1 := b7.c1
  have b7_f0 := b7.f0
  have b7_f1 := b7.f1
  go_upto_region 7 with fail
  clear b7_c0 b7_c1 b7_f0 b7_f1
  refine wp_name ?_
  intro V18 hV
  have b2N : Box2 V18 w.heap.size (.int .i64 (hi n)) (.int .u64 (lo n)) 42 := by rw [hV]; exact ((b2).other (b := w2.heap.size) (by omega) 0 (.int .u64 (hi (X : Int)))).other (b := w2.heap.size) (by omega) 1 (.int .u64 (lo (X : Int)))
  have b3N : Box2 V18 (w.heap.size + 1) (.int .i64 (hi d)) (.int .u64 (lo d)) 42 := by rw [hV]; exact ((b3).other (b := w2.heap.size) (by omega) 0 (.int .u64 (hi (X : Int)))).other (b := w2.heap.size) (by omega) 1 (.int .u64 (lo (X : Int)))
  have b4N : Box2 V18 (w.heap.size + 1 + 1) (.int .i64 0) (.int .u64 0) 42 := by rw [hV]; exact ((b4).other (b := w2.heap.size) (by omega) 0 (.int .u64 (hi (X : Int)))).other (b := w2.heap.size) (by omega) 1 (.int .u64 (lo (X : Int)))
  have b5N : Box2 V18 (w.heap.size + 1 + 1 + 1) (.int .i64 0) (.int .u64 0) 42 := by rw [hV]; exact ((b5).other (b := w2.heap.size) (by omega) 0 (.int .u64 (hi (X : Int)))).other (b := w2.heap.size) (by omega) 1 (.int .u64 (lo (X : Int)))
  have b7N : Box2 V18 w2.heap.size (.int .u64 (hi (X : Int))) (.int .u64 (lo (X : Int))) 139 := by rw [hV]; exact (b7).set (.int .u64 (hi (X : Int))) (.int .u64 (lo (X : Int)))
  have b9N : Box2 V18 w9.heap.size (.int .u64 (hi (D : Int))) (.int .u64 (lo (D : Int))) 139 := by rw [hV]; exact ((b9).other (b := w2.heap.size) (by omega) 0 (.int .u64 (hi (X : Int)))).other (b := w2.heap.size) (by omega) 1 (.int .u64 (lo (X : Int)))
  have b11N : Box2 V18 w13.heap.size (.int .u64 (hi (G : Int))) (.int .u64 (lo (G : Int))) 139 := by rw [hV]; exact ((b11).other (b := w2.heap.size) (by omega) 0 (.int .u64 (hi (X : Int)))).other (b := w2.heap.size) (by omega) 1 (.int .u64 (lo (X : Int)))
  replace xw : Ext w V18 := by rw [hV]; exact Ext.set (Ext.set (xw) (k := w2.heap.size) (o := 0) (u := .int .u64 (hi (X : Int))) (by omega)) (k := w2.heap.size) (o := 1) (u := .int .u64 (lo (X : Int))) (by omega)
  replace b2 := b2N; clear b2N
  replace b3 := b3N; clear b3N
  replace b4 := b4N; clear b4N
  replace b5 := b5N; clear b5N
  replace b7 := b7N; clear b7N
  replace b9 := b9N; clear b9N
  replace b11 := b11N; clear b11N
  clear hV
  have b9_c0 := b9.c0
  have b9_c1 := b9.c1
  have b11_c0 := b11.c0
  have b11_c1 := b11.c1
  go_wp2_with fail
  refine (HO2.out _).mono ?_
  rw [HY.out, HR2.out]
  rintro e w19 ⟨rfl, x19⟩
  clear b9_c0 b9_c1 b11_c0 b11_c1
  replace b2 := b2.ext x19
  replace b3 := b3.ext x19
  replace b4 := b4.ext x19
  replace b5 := b5.ext x19
  replace b7 := b7.ext x19
  replace b9 := b9.ext x19
  replace b11 := b11.ext x19
  replace xw := Ext.trans xw x19
  have b9_c0 := b9.c0
  have b9_c1 := b9.c1
  have b9_f0 := b9.f0
  have b9_f1 := b9.f1
  go_upto_region 8 with fail
  clear b9_c0 b9_c1 b9_f0 b9_f1
  refine wp_name ?_
  intro V20 hV
  have b2N : Box2 V20 w.heap.size (.int .i64 (hi n)) (.int .u64 (lo n)) 42 := by rw [hV]; exact ((b2).other (b := w9.heap.size) (by omega) 0 (.int .u64 (hi (Y : Int)))).other (b := w9.heap.size) (by omega) 1 (.int .u64 (lo (Y : Int)))
  have b3N : Box2 V20 (w.heap.size + 1) (.int .i64 (hi d)) (.int .u64 (lo d)) 42 := by rw [hV]; exact ((b3).other (b := w9.heap.size) (by omega) 0 (.int .u64 (hi (Y : Int)))).other (b := w9.heap.size) (by omega) 1 (.int .u64 (lo (Y : Int)))
  have b4N : Box2 V20 (w.heap.size + 1 + 1) (.int .i64 0) (.int .u64 0) 42 := by rw [hV]; exact ((b4).other (b := w9.heap.size) (by omega) 0 (.int .u64 (hi (Y : Int)))).other (b := w9.heap.size) (by omega) 1 (.int .u64 (lo (Y : Int)))
  have b5N : Box2 V20 (w.heap.size + 1 + 1 + 1) (.int .i64 0) (.int .u64 0) 42 := by rw [hV]; exact ((b5).other (b := w9.heap.size) (by omega) 0 (.int .u64 (hi (Y : Int)))).other (b := w9.heap.size) (by omega) 1 (.int .u64 (lo (Y : Int)))
  have b7N : Box2 V20 w2.heap.size (.int .u64 (hi (X : Int))) (.int .u64 (lo (X : Int))) 139 := by rw [hV]; exact ((b7).other (b := w9.heap.size) (by omega) 0 (.int .u64 (hi (Y : Int)))).other (b := w9.heap.size) (by omega) 1 (.int .u64 (lo (Y : Int)))
  have b9N : Box2 V20 w9.heap.size (.int .u64 (hi (Y : Int))) (.int .u64 (lo (Y : Int))) 139 := by rw [hV]; exact (b9).set (.int .u64 (hi (Y : Int))) (.int .u64 (lo (Y : Int)))
  have b11N : Box2 V20 w13.heap.size (.int .u64 (hi (G : Int))) (.int .u64 (lo (G : Int))) 139 := by rw [hV]; exact ((b11).other (b := w9.heap.size) (by omega) 0 (.int .u64 (hi (Y : Int)))).other (b := w9.heap.size) (by omega) 1 (.int .u64 (lo (Y : Int)))
  replace xw : Ext w V20 := by rw [hV]; exact Ext.set (Ext.set (xw) (k := w9.heap.size) (o := 0) (u := .int .u64 (hi (Y : Int))) (by omega)) (k := w9.heap.size) (o := 1) (u := .int .u64 (lo (Y : Int))) (by omega)
  replace b2 := b2N; clear b2N
  replace b3 := b3N; clear b3N
  replace b4 := b4N; clear b4N
  replace b5 := b5N; clear b5N
  replace b7 := b7N; clear b7N
  replace b9 := b9N; clear b9N
  replace b11 := b11N; clear b11N
  clear hV
  have b7_c0 := b7.c0
  have b7_c1 := b7.c1
  go_wp2_with fail
  refine (HSgd.out _ _ _ HUX.out).mono ?_
  rw [HP.out]
  rintro e w21 ⟨rfl, x21⟩
  rw [thi_yes hP, tlo_yes hP, ter_yes hP]
  clear b7_c0 b7_c1
  replace b2 := b2.ext x21
  replace b3 := b3.ext x21
  replace b4 := b4.ext x21
  replace b5 := b5.ext x21
  replace b7 := b7.ext x21
  replace b9 := b9.ext x21
  replace b11 := b11.ext x21
  replace xw := Ext.trans xw x21
  go_upto_region 9 with fail
  have o23 := b11.kind.lt
  have o24 := xw.size
  refine wp_name ?_
  intro V22 hV
  have b2N : Box2 V22 w.heap.size (.int .i64 (hi n)) (.int .u64 (lo n)) 42 := by rw [hV]; exact (b2).alloc _
  have b3N : Box2 V22 (w.heap.size + 1) (.int .i64 (hi d)) (.int .u64 (lo d)) 42 := by rw [hV]; exact (b3).alloc _
  have b4N : Box2 V22 (w.heap.size + 1 + 1) (.int .i64 0) (.int .u64 0) 42 := by rw [hV]; exact (b4).alloc _
  have b5N : Box2 V22 (w.heap.size + 1 + 1 + 1) (.int .i64 0) (.int .u64 0) 42 := by rw [hV]; exact (b5).alloc _
  have b7N : Box2 V22 w2.heap.size (.int .u64 (hi (X : Int))) (.int .u64 (lo (X : Int))) 139 := by rw [hV]; exact (b7).alloc _
  have b9N : Box2 V22 w9.heap.size (.int .u64 (hi (Y : Int))) (.int .u64 (lo (Y : Int))) 139 := by rw [hV]; exact (b9).alloc _
  have b11N : Box2 V22 w13.heap.size (.int .u64 (hi (G : Int))) (.int .u64 (lo (G : Int))) 139 := by rw [hV]; exact (b11).alloc _
  replace xw : Ext w V22 := by rw [hV]; exact Ext.alloc (xw)
  replace b2 := b2N; clear b2N
  replace b3 := b3N; clear b3N
  replace b4 := b4N; clear b4N
  replace b5 := b5N; clear b5N
  replace b7 := b7N; clear b7N
  replace b9 := b9N; clear b9N
  replace b11 := b11N; clear b11N
  have b12 : Box2 V22 w21.heap.size (.int .i64 (hi (frP n d))) (.int .u64 (lo (frP n d))) 42 := by rw [hV]; exact Box2.new rfl
  clear hV
  have b9_c0 := b9.c0
  have b9_c1 := b9.c1
  go_wp2_with fail
  refine (HSgd.out _ _ _ HUY.out).mono ?_
  rw [HQ.out]
  rintro e w25 ⟨rfl, x25⟩
  rw [thi_no hQ, tlo_no hQ, ter_no hQ]
  clear b9_c0 b9_c1
  replace b2 := b2.ext x25
  replace b3 := b3.ext x25
  replace b4 := b4.ext x25
  replace b5 := b5.ext x25
  replace b7 := b7.ext x25
  replace b9 := b9.ext x25
  replace b11 := b11.ext x25
  replace b12 := b12.ext x25
  replace xw := Ext.trans xw x25
  go_upto_region 10 with fail
  have o27 := b12.kind.lt
  have o28 := xw.size
  refine wp_name ?_
  intro V26 hV
  have b2N : Box2 V26 w.heap.size (.int .i64 (hi n)) (.int .u64 (lo n)) 42 := by rw [hV]; exact (b2).alloc _
  have b3N : Box2 V26 (w.heap.size + 1) (.int .i64 (hi d)) (.int .u64 (lo d)) 42 := by rw [hV]; exact (b3).alloc _
  have b4N : Box2 V26 (w.heap.size + 1 + 1) (.int .i64 0) (.int .u64 0) 42 := by rw [hV]; exact (b4).alloc _
  have b5N : Box2 V26 (w.heap.size + 1 + 1 + 1) (.int .i64 0) (.int .u64 0) 42 := by rw [hV]; exact (b5).alloc _
  have b7N : Box2 V26 w2.heap.size (.int .u64 (hi (X : Int))) (.int .u64 (lo (X : Int))) 139 := by rw [hV]; exact (b7).alloc _
  have b9N : Box2 V26 w9.heap.size (.int .u64 (hi (Y : Int))) (.int .u64 (lo (Y : Int))) 139 := by rw [hV]; exact (b9).alloc _
  have b11N : Box2 V26 w13.heap.size (.int .u64 (hi (G : Int))) (.int .u64 (lo (G : Int))) 139 := by rw [hV]; exact (b11).alloc _
  have b12N : Box2 V26 w21.heap.size (.int .i64 (hi (frP n d))) (.int .u64 (lo (frP n d))) 42 := by rw [hV]; exact (b12).alloc _
  replace xw : Ext w V26 := by rw [hV]; exact Ext.alloc (xw)
  replace b2 := b2N; clear b2N
  replace b3 := b3N; clear b3N
  replace b4 := b4N; clear b4N
  replace b5 := b5N; clear b5N
  replace b7 := b7N; clear b7N
  replace b9 := b9N; clear b9N
  replace b11 := b11N; clear b11N
  replace b12 := b12N; clear b12N
  have b14 : Box2 V26 w25.heap.size (.int .i64 0) (.int .u64 0) 42 := by rw [hV]; exact Box2.new rfl
  clear hV
  go_upto_region 11 with fail
  have b4_c0 := b4.c0
  have b4_c1 := b4.c1
  have b4_f0 := b4.f0
  have b4_f1 := b4.f1
  have b5_c0 := b5.c0
  have b5_c1 := b5.c1
  have b5_f0 := b5.f0
  have b5_f1 := b5.f1
  have xr := Ext.set (Ext.set (Ext.set (Ext.set (xw) (k := w.heap.size + 1 + 1) (o := 0) (u := .int .i64 0) (by omega)) (k := w.heap.size + 1 + 1) (o := 1) (u := .int .u64 0) (by omega)) (k := w.heap.size + 1 + 1 + 1) (o := 0) (u := .int .i64 0) (by omega)) (k := w.heap.size + 1 + 1 + 1) (o := 1) (u := .int .u64 0) (by omega)
  go_wp2_with fail
  refine bodyPost_ret (v := .tuple #[.agg #[.int .i64 0, .int .u64 0], .agg #[.int .i64 0, .int .u64 0], .int .i64 2]) (by simp [results, Tryz.results41, go_sem, b4_c0, b4_c1, b5_c0, b5_c1]) rfl (retFr_no H0.out (fun h => hQ h.2.2) xr)
 ·have g1 : (hi d == 0) = false := by simpa using hz1
  clear hz hz1
  go_enter Tryz.func41, Tryz.ntmps41
  go_upto_region 1 with fail
  have xw := Ext.refl w
  refine wp_name ?_
  intro V29 hV
  replace xw : Ext w V29 := by rw [hV]; exact Ext.alloc (Ext.alloc (Ext.alloc (Ext.alloc (xw))))
  have b2 : Box2 V29 w.heap.size (.int .i64 (hi n)) (.int .u64 (lo n)) 42 := by rw [hV]; exact (((Box2.new rfl).alloc _).alloc _).alloc _
  have b3 : Box2 V29 (w.heap.size + 1) (.int .i64 (hi d)) (.int .u64 (lo d)) 42 := by rw [hV]; exact ((Box2.new (by simp)).alloc _).alloc _
  have b4 : Box2 V29 (w.heap.size + 1 + 1) (.int .i64 0) (.int .u64 0) 42 := by rw [hV]; exact (Box2.new (by simp)).alloc _
  have b5 : Box2 V29 (w.heap.size + 1 + 1 + 1) (.int .i64 0) (.int .u64 0) 42 := by rw [hV]; exact Box2.new (by simp)
  clear hV
  have b3_c0 := b3.c0
  have b3_c1 := b3.c1
  go_upto_region 3 with fail
  clear b3_c0 b3_c1
  have b2_c0 := b2.c0
  have b2_c1 := b2.c1
  go_wp2_with fail
  refine (HPar.out n _ hn).mono ?_
  rw [HA.out]
  rintro e w30 ⟨rfl, x30⟩
  clear b2_c0 b2_c1
  replace b2 := b2.ext x30
  replace b3 := b3.ext x30
  replace b4 := b4.ext x30
  replace b5 := b5.ext x30
  replace xw := Ext.trans xw x30
  go_upto_region 4 with fail
  have o32 := b2.kind.lt
  have o33 := b3.kind.lt
  have o34 := b4.kind.lt
  have o35 := b5.kind.lt
  have o36 := xw.size
  refine wp_name ?_
  intro V31 hV
  have b2N : Box2 V31 w.heap.size (.int .i64 (hi n)) (.int .u64 (lo n)) 42 := by rw [hV]; exact (b2).alloc _
  have b3N : Box2 V31 (w.heap.size + 1) (.int .i64 (hi d)) (.int .u64 (lo d)) 42 := by rw [hV]; exact (b3).alloc _
  have b4N : Box2 V31 (w.heap.size + 1 + 1) (.int .i64 0) (.int .u64 0) 42 := by rw [hV]; exact (b4).alloc _
  have b5N : Box2 V31 (w.heap.size + 1 + 1 + 1) (.int .i64 0) (.int .u64 0) 42 := by rw [hV]; exact (b5).alloc _
  replace xw : Ext w V31 := by rw [hV]; exact Ext.alloc (xw)
  replace b2 := b2N; clear b2N
  replace b3 := b3N; clear b3N
  replace b4 := b4N; clear b4N
  replace b5 := b5N; clear b5N
  have b7 : Box2 V31 w30.heap.size (.int .u64 (hi (A : Int))) (.int .u64 (lo (A : Int))) 139 := by rw [hV]; exact Box2.new rfl
  clear hV
  have b3_c0 := b3.c0
  have b3_c1 := b3.c1
  go_wp2_with fail
  refine (HPar.out d _ hd).mono ?_
  rw [HD.out]
  rintro e w37 ⟨rfl, x37⟩
  clear b3_c0 b3_c1
  replace b2 := b2.ext x37
  replace b3 := b3.ext x37
  replace b4 := b4.ext x37
  replace b5 := b5.ext x37
  replace b7 := b7.ext x37
  replace xw := Ext.trans xw x37
  go_upto_region 5 with fail
  have o39 := b7.kind.lt
  have o40 := xw.size
  refine wp_name ?_
  intro V38 hV
  have b2N : Box2 V38 w.heap.size (.int .i64 (hi n)) (.int .u64 (lo n)) 42 := by rw [hV]; exact (b2).alloc _
  have b3N : Box2 V38 (w.heap.size + 1) (.int .i64 (hi d)) (.int .u64 (lo d)) 42 := by rw [hV]; exact (b3).alloc _
  have b4N : Box2 V38 (w.heap.size + 1 + 1) (.int .i64 0) (.int .u64 0) 42 := by rw [hV]; exact (b4).alloc _
  have b5N : Box2 V38 (w.heap.size + 1 + 1 + 1) (.int .i64 0) (.int .u64 0) 42 := by rw [hV]; exact (b5).alloc _
  have b7N : Box2 V38 w30.heap.size (.int .u64 (hi (A : Int))) (.int .u64 (lo (A : Int))) 139 := by rw [hV]; exact (b7).alloc _
  replace xw : Ext w V38 := by rw [hV]; exact Ext.alloc (xw)
  replace b2 := b2N; clear b2N
  replace b3 := b3N; clear b3N
  replace b4 := b4N; clear b4N
  replace b5 := b5N; clear b5N
  replace b7 := b7N; clear b7N
  have b9 : Box2 V38 w37.heap.size (.int .u64 (hi (D : Int))) (.int .u64 (lo (D : Int))) 139 := by rw [hV]; exact Box2.new rfl
  clear hV
  have b7_c0 := b7.c0
  have b7_c1 := b7.c1
  have b9_c0 := b9.c0
  have b9_c1 := b9.c1
  go_wp2_with fail
  refine (HGc.out 170141183460469231731687303715884105728 A D _ HBd.out.1 HBd.out.2 HOT.out).mono ?_
  rw [HG.out]
  rintro e w41 ⟨rfl, x41⟩
  clear b7_c0 b7_c1 b9_c0 b9_c1
  replace b2 := b2.ext x41
  replace b3 := b3.ext x41
  replace b4 := b4.ext x41
  replace b5 := b5.ext x41
  replace b7 := b7.ext x41
  replace b9 := b9.ext x41
  replace xw := Ext.trans xw x41
  go_upto_region 6 with fail
  have o43 := b9.kind.lt
  have o44 := xw.size
  refine wp_name ?_
  intro V42 hV
  have b2N : Box2 V42 w.heap.size (.int .i64 (hi n)) (.int .u64 (lo n)) 42 := by rw [hV]; exact (b2).alloc _
  have b3N : Box2 V42 (w.heap.size + 1) (.int .i64 (hi d)) (.int .u64 (lo d)) 42 := by rw [hV]; exact (b3).alloc _
  have b4N : Box2 V42 (w.heap.size + 1 + 1) (.int .i64 0) (.int .u64 0) 42 := by rw [hV]; exact (b4).alloc _
  have b5N : Box2 V42 (w.heap.size + 1 + 1 + 1) (.int .i64 0) (.int .u64 0) 42 := by rw [hV]; exact (b5).alloc _
  have b7N : Box2 V42 w30.heap.size (.int .u64 (hi (A : Int))) (.int .u64 (lo (A : Int))) 139 := by rw [hV]; exact (b7).alloc _
  have b9N : Box2 V42 w37.heap.size (.int .u64 (hi (D : Int))) (.int .u64 (lo (D : Int))) 139 := by rw [hV]; exact (b9).alloc _
  replace xw : Ext w V42 := by rw [hV]; exact Ext.alloc (xw)
  replace b2 := b2N; clear b2N
  replace b3 := b3N; clear b3N
  replace b4 := b4N; clear b4N
  replace b5 := b5N; clear b5N
  replace b7 := b7N; clear b7N
  replace b9 := b9N; clear b9N
  have b11 : Box2 V42 w41.heap.size (.int .u64 (hi (G : Int))) (.int .u64 (lo (G : Int))) 139 := by rw [hV]; exact Box2.new rfl
  clear hV
  have b7_c0 := b7.c0
  have b7_c1 := b7.c1
  have b11_c0 := b11.c0
  have b11_c1 := b11.c1
  go_wp2_with fail
  refine (HO1.out _).mono ?_
  rw [HX.out, HR1.out]
  rintro e w45 ⟨rfl, x45⟩
  clear b7_c0 b7_c1 b11_c0 b11_c1
  replace b2 := b2.ext x45
  replace b3 := b3.ext x45
  replace b4 := b4.ext x45
  replace b5 := b5.ext x45
  replace b7 := b7.ext x45
  replace b9 := b9.ext x45
  replace b11 := b11.ext x45
  replace xw := Ext.trans xw x45
  have b7_c0 := b7.c0
  have b7_c1 := b7.c1
  have b7_f0 := b7.f0
  have b7_f1 := b7.f1
  go_upto_region 7 with fail
  clear b7_c0 b7_c1 b7_f0 b7_f1
  refine wp_name ?_
  intro V46 hV
  have b2N : Box2 V46 w.heap.size (.int .i64 (hi n)) (.int .u64 (lo n)) 42 := by rw [hV]; exact ((b2).other (b := w30.heap.size) (by omega) 0 (.int .u64 (hi (X : Int)))).other (b := w30.heap.size) (by omega) 1 (.int .u64 (lo (X : Int)))
  have b3N : Box2 V46 (w.heap.size + 1) (.int .i64 (hi d)) (.int .u64 (lo d)) 42 := by rw [hV]; exact ((b3).other (b := w30.heap.size) (by omega) 0 (.int .u64 (hi (X : Int)))).other (b := w30.heap.size) (by omega) 1 (.int .u64 (lo (X : Int)))
  have b4N : Box2 V46 (w.heap.size + 1 + 1) (.int .i64 0) (.int .u64 0) 42 := by rw [hV]; exact ((b4).other (b := w30.heap.size) (by omega) 0 (.int .u64 (hi (X : Int)))).other (b := w30.heap.size) (by omega) 1 (.int .u64 (lo (X : Int)))
  have b5N : Box2 V46 (w.heap.size + 1 + 1 + 1) (.int .i64 0) (.int .u64 0) 42 := by rw [hV]; exact ((b5).other (b := w30.heap.size) (by omega) 0 (.int .u64 (hi (X : Int)))).other (b := w30.heap.size) (by omega) 1 (.int .u64 (lo (X : Int)))
  have b7N : Box2 V46 w30.heap.size (.int .u64 (hi (X : Int))) (.int .u64 (lo (X : Int))) 139 := by rw [hV]; exact (b7).set (.int .u64 (hi (X : Int))) (.int .u64 (lo (X : Int)))
  have b9N : Box2 V46 w37.heap.size (.int .u64 (hi (D : Int))) (.int .u64 (lo (D : Int))) 139 := by rw [hV]; exact ((b9).other (b := w30.heap.size) (by omega) 0 (.int .u64 (hi (X : Int)))).other (b := w30.heap.size) (by omega) 1 (.int .u64 (lo (X : Int)))
  have b11N : Box2 V46 w41.heap.size (.int .u64 (hi (G : Int))) (.int .u64 (lo (G : Int))) 139 := by rw [hV]; exact ((b11).other (b := w30.heap.size) (by omega) 0 (.int .u64 (hi (X : Int)))).other (b := w30.heap.size) (by omega) 1 (.int .u64 (lo (X : Int)))
  replace xw : Ext w V46 := by rw [hV]; exact Ext.set (Ext.set (xw) (k := w30.heap.size) (o := 0) (u := .int .u64 (hi (X : Int))) (by omega)) (k := w30.heap.size) (o := 1) (u := .int .u64 (lo (X : Int))) (by omega)
  replace b2 := b2N; clear b2N
  replace b3 := b3N; clear b3N
  replace b4 := b4N; clear b4N
  replace b5 := b5N; clear b5N
  replace b7 := b7N; clear b7N
  replace b9 := b9N; clear b9N
  replace b11 := b11N; clear b11N
  clear hV
  have b9_c0 := b9.c0
  have b9_c1 := b9.c1
  have b11_c0 := b11.c0
  have b11_c1 := b11.c1
  go_wp2_with fail
  refine (HO2.out _).mono ?_
  rw [HY.out, HR2.out]
  rintro e w47 ⟨rfl, x47⟩
  clear b9_c0 b9_c1 b11_c0 b11_c1
  replace b2 := b2.ext x47
  replace b3 := b3.ext x47
  replace b4 := b4.ext x47
  replace b5 := b5.ext x47
  replace b7 := b7.ext x47
  replace b9 := b9.ext x47
  replace b11 := b11.ext x47
  replace xw := Ext.trans xw x47
  have b9_c0 := b9.c0
  have b9_c1 := b9.c1
  have b9_f0 := b9.f0
  have b9_f1 := b9.f1
  go_upto_region 8 with fail
  clear b9_c0 b9_c1 b9_f0 b9_f1
  refine wp_name ?_
  intro V48 hV
  have b2N : Box2 V48 w.heap.size (.int .i64 (hi n)) (.int .u64 (lo n)) 42 := by rw [hV]; exact ((b2).other (b := w37.heap.size) (by omega) 0 (.int .u64 (hi (Y : Int)))).other (b := w37.heap.size) (by omega) 1 (.int .u64 (lo (Y : Int)))
  have b3N : Box2 V48 (w.heap.size + 1) (.int .i64 (hi d)) (.int .u64 (lo d)) 42 := by rw [hV]; exact ((b3).other (b := w37.heap.size) (by omega) 0 (.int .u64 (hi (Y : Int)))).other (b := w37.heap.size) (by omega) 1 (.int .u64 (lo (Y : Int)))
  have b4N : Box2 V48 (w.heap.size + 1 + 1) (.int .i64 0) (.int .u64 0) 42 := by rw [hV]; exact ((b4).other (b := w37.heap.size) (by omega) 0 (.int .u64 (hi (Y : Int)))).other (b := w37.heap.size) (by omega) 1 (.int .u64 (lo (Y : Int)))
  have b5N : Box2 V48 (w.heap.size + 1 + 1 + 1) (.int .i64 0) (.int .u64 0) 42 := by rw [hV]; exact ((b5).other (b := w37.heap.size) (by omega) 0 (.int .u64 (hi (Y : Int)))).other (b := w37.heap.size) (by omega) 1 (.int .u64 (lo (Y : Int)))
  have b7N : Box2 V48 w30.heap.size (.int .u64 (hi (X : Int))) (.int .u64 (lo (X : Int))) 139 := by rw [hV]; exact ((b7).other (b := w37.heap.size) (by omega) 0 (.int .u64 (hi (Y : Int)))).other (b := w37.heap.size) (by omega) 1 (.int .u64 (lo (Y : Int)))
  have b9N : Box2 V48 w37.heap.size (.int .u64 (hi (Y : Int))) (.int .u64 (lo (Y : Int))) 139 := by rw [hV]; exact (b9).set (.int .u64 (hi (Y : Int))) (.int .u64 (lo (Y : Int)))
  have b11N : Box2 V48 w41.heap.size (.int .u64 (hi (G : Int))) (.int .u64 (lo (G : Int))) 139 := by rw [hV]; exact ((b11).other (b := w37.heap.size) (by omega) 0 (.int .u64 (hi (Y : Int)))).other (b := w37.heap.size) (by omega) 1 (.int .u64 (lo (Y : Int)))
  replace xw : Ext w V48 := by rw [hV]; exact Ext.set (Ext.set (xw) (k := w37.heap.size) (o := 0) (u := .int .u64 (hi (Y : Int))) (by omega)) (k := w37.heap.size) (o := 1) (u := .int .u64 (lo (Y : Int))) (by omega)
  replace b2 := b2N; clear b2N
  replace b3 := b3N; clear b3N
  replace b4 := b4N; clear b4N
  replace b5 := b5N; clear b5N
  replace b7 := b7N; clear b7N
  replace b9 := b9N; clear b9N
  replace b11 := b11N; clear b11N
  clear hV
  have b7_c0 := b7.c0
  have b7_c1 := b7.c1
  go_wp2_with fail
  refine (HSgd.out _ _ _ HUX.out).mono ?_
  rw [HP.out]
  rintro e w49 ⟨rfl, x49⟩
  rw [thi_yes hP, tlo_yes hP, ter_yes hP]
  clear b7_c0 b7_c1
  replace b2 := b2.ext x49
  replace b3 := b3.ext x49
  replace b4 := b4.ext x49
  replace b5 := b5.ext x49
  replace b7 := b7.ext x49
  replace b9 := b9.ext x49
  replace b11 := b11.ext x49
  replace xw := Ext.trans xw x49
  go_upto_region 9 with fail
  have o51 := b11.kind.lt
  have o52 := xw.size
  refine wp_name ?_
  intro V50 hV
  have b2N : Box2 V50 w.heap.size (.int .i64 (hi n)) (.int .u64 (lo n)) 42 := by rw [hV]; exact (b2).alloc _
  have b3N : Box2 V50 (w.heap.size + 1) (.int .i64 (hi d)) (.int .u64 (lo d)) 42 := by rw [hV]; exact (b3).alloc _
  have b4N : Box2 V50 (w.heap.size + 1 + 1) (.int .i64 0) (.int .u64 0) 42 := by rw [hV]; exact (b4).alloc _
  have b5N : Box2 V50 (w.heap.size + 1 + 1 + 1) (.int .i64 0) (.int .u64 0) 42 := by rw [hV]; exact (b5).alloc _
  have b7N : Box2 V50 w30.heap.size (.int .u64 (hi (X : Int))) (.int .u64 (lo (X : Int))) 139 := by rw [hV]; exact (b7).alloc _
  have b9N : Box2 V50 w37.heap.size (.int .u64 (hi (Y : Int))) (.int .u64 (lo (Y : Int))) 139 := by rw [hV]; exact (b9).alloc _
  have b11N : Box2 V50 w41.heap.size (.int .u64 (hi (G : Int))) (.int .u64 (lo (G : Int))) 139 := by rw [hV]; exact (b11).alloc _
  replace xw : Ext w V50 := by rw [hV]; exact Ext.alloc (xw)
  replace b2 := b2N; clear b2N
  replace b3 := b3N; clear b3N
  replace b4 := b4N; clear b4N
  replace b5 := b5N; clear b5N
  replace b7 := b7N; clear b7N
  replace b9 := b9N; clear b9N
  replace b11 := b11N; clear b11N
  have b12 : Box2 V50 w49.heap.size (.int .i64 (hi (frP n d))) (.int .u64 (lo (frP n d))) 42 := by rw [hV]; exact Box2.new rfl
  clear hV
  have b9_c0 := b9.c0
  have b9_c1 := b9.c1
  go_wp2_with fail
  refine (HSgd.out _ _ _ HUY.out).mono ?_
  rw [HQ.out]
  rintro e w53 ⟨rfl, x53⟩
  rw [thi_no hQ, tlo_no hQ, ter_no hQ]
  clear b9_c0 b9_c1
  replace b2 := b2.ext x53
  replace b3 := b3.ext x53
  replace b4 := b4.ext x53
  replace b5 := b5.ext x53
  replace b7 := b7.ext x53
  replace b9 := b9.ext x53
  replace b11 := b11.ext x53
  replace b12 := b12.ext x53
  replace xw := Ext.trans xw x53
  go_upto_region 10 with fail
  have o55 := b12.kind.lt
  have o56 := xw.size
  refine wp_name ?_
  intro V54 hV
  have b2N : Box2 V54 w.heap.size (.int .i64 (hi n)) (.int .u64 (lo n)) 42 := by rw [hV]; exact (b2).alloc _
  have b3N : Box2 V54 (w.heap.size + 1) (.int .i64 (hi d)) (.int .u64 (lo d)) 42 := by rw [hV]; exact (b3).alloc _
  have b4N : Box2 V54 (w.heap.size + 1 + 1) (.int .i64 0) (.int .u64 0) 42 := by rw [hV]; exact (b4).alloc _
  have b5N : Box2 V54 (w.heap.size + 1 + 1 + 1) (.int .i64 0) (.int .u64 0) 42 := by rw [hV]; exact (b5).alloc _
  have b7N : Box2 V54 w30.heap.size (.int .u64 (hi (X : Int))) (.int .u64 (lo (X : Int))) 139 := by rw [hV]; exact (b7).alloc _
  have b9N : Box2 V54 w37.heap.size (.int .u64 (hi (Y : Int))) (.int .u64 (lo (Y : Int))) 139 := by rw [hV]; exact (b9).alloc _
  have b11N : Box2 V54 w41.heap.size (.int .u64 (hi (G : Int))) (.int .u64 (lo (G : Int))) 139 := by rw [hV]; exact (b11).alloc _
  have b12N : Box2 V54 w49.heap.size (.int .i64 (hi (frP n d))) (.int .u64 (lo (frP n d))) 42 := by rw [hV]; exact (b12).alloc _
  replace xw : Ext w V54 := by rw [hV]; exact Ext.alloc (xw)
  replace b2 := b2N; clear b2N
  replace b3 := b3N; clear b3N
  replace b4 := b4N; clear b4N
  replace b5 := b5N; clear b5N
  replace b7 := b7N; clear b7N
  replace b9 := b9N; clear b9N
  replace b11 := b11N; clear b11N
  replace b12 := b12N; clear b12N
  have b14 : Box2 V54 w53.heap.size (.int .i64 0) (.int .u64 0) 42 := by rw [hV]; exact Box2.new rfl
  clear hV
  go_upto_region 11 with fail
  have b4_c0 := b4.c0
  have b4_c1 := b4.c1
  have b4_f0 := b4.f0
  have b4_f1 := b4.f1
  have b5_c0 := b5.c0
  have b5_c1 := b5.c1
  have b5_f0 := b5.f0
  have b5_f1 := b5.f1
  have xr := Ext.set (Ext.set (Ext.set (Ext.set (xw) (k := w.heap.size + 1 + 1) (o := 0) (u := .int .i64 0) (by omega)) (k := w.heap.size + 1 + 1) (o := 1) (u := .int .u64 0) (by omega)) (k := w.heap.size + 1 + 1 + 1) (o := 0) (u := .int .i64 0) (by omega)) (k := w.heap.size + 1 + 1 + 1) (o := 1) (u := .int .u64 0) (by omega)
  go_wp2_with fail
  refine bodyPost_ret (v := .tuple #[.agg #[.int .i64 0, .int .u64 0], .agg #[.int .i64 0, .int .u64 0], .int .i64 2]) (by simp [results, Tryz.results41, go_sem, b4_c0, b4_c1, b5_c0, b5_c1]) rfl (retFr_no H0.out (fun h => hQ h.2.2) xr)
theorem dfrac_any (n d : Int) (w : World) (hn : W128 n) (hd : W128 d) :
  Calls Tryz.prog 41 #[.agg #[.int .i64 (hi n), .int .u64 (lo n)], .agg #[.int .i64 (hi d), .int .u64 (lo d)]] w (RetFr w n d) := by
 by_cases h0 : d = 0
 ·subst h0; exact dfrac0 n w
 by_cases hP : W128 (frP n d)
 ·by_cases hQ : W128 (frQ n d)
  ·exact dfrac_yes n d w hn hd h0 hP hQ
  ·exact dfrac_no2 n d w hn hd h0 hP hQ
 ·exact dfrac_no1 n d w hn hd h0 hP
end Go.Proofs.YthoedmikfpbfnaaGreat
end
section
/-
 A total laid out, as the program and the reference do it; sums, rounding.
-/
set_option linter.unusedVariables false
set_option maxRecDepth 100000
namespace Go.Proofs.YthoedmikfpbfnaaGreat
open Go Go.RowKit Go.Ev

section
variable (a b c d h mi s n : Int)
theorem uright (i : all64 a b c d h mi s n) : Fn 25 [] [duv a b c d h mi s n] (.bool (decide (uOk a b c d h mi s n))) := by
 by_cases ka : a = 0
 rotate_left
 ·by_cases z : 0 < a
  ·exact uright_p a b c d h mi s n i (sg8_1 (.inl z)) (.inl z)
  ·exact uright_n a b c d h mi s n i (sg8_m (.inl (by omega))) (.inl (by omega))
 by_cases kb : b = 0
 rotate_left
 ·by_cases z : 0 < b
  ·exact uright_p a b c d h mi s n i (sg8_1 (.inr ⟨ka, (.inl z)⟩)) (.inr ⟨ka, (.inl z)⟩)
  ·exact uright_n a b c d h mi s n i (sg8_m (.inr ⟨ka, (.inl (by omega))⟩)) (.inr ⟨ka, (.inl (by omega))⟩)
 by_cases kc : c = 0
 rotate_left
 ·by_cases z : 0 < c
  ·exact uright_p a b c d h mi s n i (sg8_1 (.inr ⟨ka, (.inr ⟨kb, (.inl z)⟩)⟩)) (.inr ⟨ka, (.inr ⟨kb, (.inl z)⟩)⟩)
  ·exact uright_n a b c d h mi s n i (sg8_m (.inr ⟨ka, (.inr ⟨kb, (.inl (by omega))⟩)⟩)) (.inr ⟨ka, (.inr ⟨kb, (.inl (by omega))⟩)⟩)
 by_cases kd : d = 0
 rotate_left
 ·by_cases z : 0 < d
  ·exact uright_p a b c d h mi s n i (sg8_1 (.inr ⟨ka, (.inr ⟨kb, (.inr ⟨kc, (.inl z)⟩)⟩)⟩)) (.inr ⟨ka, (.inr ⟨kb, (.inr ⟨kc, (.inl z)⟩)⟩)⟩)
  ·exact uright_n a b c d h mi s n i (sg8_m (.inr ⟨ka, (.inr ⟨kb, (.inr ⟨kc, (.inl (by omega))⟩)⟩)⟩)) (.inr ⟨ka, (.inr ⟨kb, (.inr ⟨kc, (.inl (by omega))⟩)⟩)⟩)
 by_cases kh : h = 0
 rotate_left
 ·by_cases z : 0 < h
  ·exact uright_p a b c d h mi s n i (sg8_1 (.inr ⟨ka, (.inr ⟨kb, (.inr ⟨kc, (.inr ⟨kd, (.inl z)⟩)⟩)⟩)⟩)) (.inr ⟨ka, (.inr ⟨kb, (.inr ⟨kc, (.inr ⟨kd, (.inl z)⟩)⟩)⟩)⟩)
  ·exact uright_n a b c d h mi s n i (sg8_m (.inr ⟨ka, (.inr ⟨kb, (.inr ⟨kc, (.inr ⟨kd, (.inl (by omega))⟩)⟩)⟩)⟩)) (.inr ⟨ka, (.inr ⟨kb, (.inr ⟨kc, (.inr ⟨kd, (.inl (by omega))⟩)⟩)⟩)⟩)
 by_cases kmi : mi = 0
 rotate_left
 ·by_cases z : 0 < mi
  ·exact uright_p a b c d h mi s n i (sg8_1 (.inr ⟨ka, (.inr ⟨kb, (.inr ⟨kc, (.inr ⟨kd, (.inr ⟨kh, (.inl z)⟩)⟩)⟩)⟩)⟩)) (.inr ⟨ka, (.inr ⟨kb, (.inr ⟨kc, (.inr ⟨kd, (.inr ⟨kh, (.inl z)⟩)⟩)⟩)⟩)⟩)
  ·exact uright_n a b c d h mi s n i (sg8_m (.inr ⟨ka, (.inr ⟨kb, (.inr ⟨kc, (.inr ⟨kd, (.inr ⟨kh, (.inl (by omega))⟩)⟩)⟩)⟩)⟩)) (.inr ⟨ka, (.inr ⟨kb, (.inr ⟨kc, (.inr ⟨kd, (.inr ⟨kh, (.inl (by omega))⟩)⟩)⟩)⟩)⟩)
 by_cases ks : s = 0
 rotate_left
 ·by_cases z : 0 < s
  ·exact uright_p a b c d h mi s n i (sg8_1 (.inr ⟨ka, (.inr ⟨kb, (.inr ⟨kc, (.inr ⟨kd, (.inr ⟨kh, (.inr ⟨kmi, (.inl z)⟩)⟩)⟩)⟩)⟩)⟩)) (.inr ⟨ka, (.inr ⟨kb, (.inr ⟨kc, (.inr ⟨kd, (.inr ⟨kh, (.inr ⟨kmi, (.inl z)⟩)⟩)⟩)⟩)⟩)⟩)
  ·exact uright_n a b c d h mi s n i (sg8_m (.inr ⟨ka, (.inr ⟨kb, (.inr ⟨kc, (.inr ⟨kd, (.inr ⟨kh, (.inr ⟨kmi, (.inl (by omega))⟩)⟩)⟩)⟩)⟩)⟩)) (.inr ⟨ka, (.inr ⟨kb, (.inr ⟨kc, (.inr ⟨kd, (.inr ⟨kh, (.inr ⟨kmi, (.inl (by omega))⟩)⟩)⟩)⟩)⟩)⟩)
 by_cases kn : n = 0
 rotate_left
 ·by_cases z : 0 < n
  ·exact uright_p a b c d h mi s n i (sg8_1 (.inr ⟨ka, (.inr ⟨kb, (.inr ⟨kc, (.inr ⟨kd, (.inr ⟨kh, (.inr ⟨kmi, (.inr ⟨ks, z⟩)⟩)⟩)⟩)⟩)⟩)⟩)) (.inr ⟨ka, (.inr ⟨kb, (.inr ⟨kc, (.inr ⟨kd, (.inr ⟨kh, (.inr ⟨kmi, (.inr ⟨ks, z⟩)⟩)⟩)⟩)⟩)⟩)⟩)
  ·exact uright_n a b c d h mi s n i (sg8_m (.inr ⟨ka, (.inr ⟨kb, (.inr ⟨kc, (.inr ⟨kd, (.inr ⟨kh, (.inr ⟨kmi, (.inr ⟨ks, (by omega)⟩)⟩)⟩)⟩)⟩)⟩)⟩)) (.inr ⟨ka, (.inr ⟨kb, (.inr ⟨kc, (.inr ⟨kd, (.inr ⟨kh, (.inr ⟨kmi, (.inr ⟨ks, (by omega)⟩)⟩)⟩)⟩)⟩)⟩)⟩)
 exact uright_z a b c d h mi s n i (sg8_0 ⟨ka, kb, kc, kd, kh, kmi, ks, kn⟩) ⟨ka, kb, kc, kd, kh, kmi, ks, kn⟩
theorem zuright (i : all64 a b c d h mi s n) : Fn 89 [] [duv a b c d h mi s n] (.bool (decide (uOk a b c d h mi s n))) := by
 by_cases hp : pos8 a b c d h mi s n
 ·exact zuright_p a b c d h mi s n i hp
 ·by_cases hn : neg8 a b c d h mi s n
  ·exact zuright_n a b c d h mi s n i hn
  ·exact zuright_m a b c d h mi s n i hp hn
theorem uright_y (i : all64 a b c d h mi s n) (k : uOk a b c d h mi s n) : Fn 25 [] [duv a b c d h mi s n] (.bool true) := by have := uright a b c d h mi s n i; rwa [decide_eq_true k] at this
theorem zuright_y (i : all64 a b c d h mi s n) (k : uOk a b c d h mi s n) : Fn 89 [] [duv a b c d h mi s n] (.bool true) := by have := zuright a b c d h mi s n i; rwa [decide_eq_true k] at this
theorem utotal_y (i : all64 a b c d h mi s n) (k : uOk a b c d h mi s n) : Fn 123 [] [duv a b c d h mi s n] (.tuple #[wv (dtot d h mi s n), .int .i64 0]) := by
 have r := uright_y a b c d h mi s n i k
 obtain ⟨i1, i2, i3, i4, i5, i6, i7, i8⟩ := i
 have t := utot a b c d h mi s n i4 i5 i6 i7 i8
 refine fn_of Tryz.func123 rfl fun ww => ?_
 refine qF ent25 (r) ?_
 refine qF ent66 (t) ?_
 exact qR Tryz.func123
end
/-! laid out -/
theorem tch (x A B : Int) (hx : W128 x) (hA : 0 < A) (hB : 0 < B) (hd : B ∣ A) (hAW : A ≤ 86400000000000) (hBW : B ≤ 86400000000000) : Fn 139 [] [wv (x.tmod A), wv B] (.tuple #[wv ((x.tmod A).tdiv B), wv (x.tmod B), .int .i64 0]) := by
 obtain ⟨e1, e2, e3⟩ := td x A hA
 have m1 : -A < x.tmod A ∧ x.tmod A < A := by
  by_cases h : 0 ≤ x
  ·have := e2 h; omega
  ·have := e3 (by omega); omega
 obtain ⟨f1, f2, f3⟩ := td (x.tmod A) B hB
 have q1 : W128 ((x.tmod A).tdiv B) := by
  have key : ∀ q : Int, 0 ≤ q → q ≤ q * B := fun q h => by
   have := Int.mul_le_mul_of_nonneg_left (show 1 ≤ B by omega) h; omega
  by_cases h : 0 ≤ x.tmod A
  ·have g := f2 h
   have := key _ g.1
   unfold W128; omega
  ·have g := f3 (by omega)
   have := key (-((x.tmod A).tdiv B)) (by omega)
   rw [Int.neg_mul] at this
   unfold W128; omega
 have t := dtrunc_yes (x.tmod A) B (by unfold W128; omega) (by unfold W128; omega) (by omega) q1
 rwa [Int.tmod_tmod_of_dvd x hd] at t
theorem ttop (x B : Int) (hx : W128 x) (hB : 0 < B) (hBW : B ≤ 86400000000000) : Fn 139 [] [wv x, wv B] (.tuple #[wv (x.tdiv B), wv (x.tmod B), .int .i64 0]) ∧ W128 (x.tmod B) := by
 obtain ⟨e1, e2, e3⟩ := td x B hB
 have key : ∀ q : Int, 0 ≤ q → q ≤ q * B := fun q h => by
  have := Int.mul_le_mul_of_nonneg_left (show 1 ≤ B by omega) h; omega
 unfold W128 at hx
 by_cases h : 0 ≤ x
 ·have g := e2 h
  have := key _ g.1
  exact ⟨dtrunc_yes x B (by unfold W128; omega) (by unfold W128; omega) (by omega) (by unfold W128; omega), by unfold W128; omega⟩
 ·have g := e3 (by omega)
  have := key (-(x.tdiv B)) (by omega)
  rw [Int.neg_mul] at this
  exact ⟨dtrunc_yes x B (by unfold W128; omega) (by unfold W128; omega) (by omega) (by unfold W128; omega), by unfold W128; omega⟩
theorem tdiv_1 (x : Int) : x.tdiv 1 = x := Int.tdiv_one x
theorem tmod_1 (x : Int) : x.tmod 1 = 0 := Int.tmod_one x
theorem ulay4_y (x : Int) (hx : W128 x) (g : I64 (x.tdiv 86400000000000)) (k : uOk 0 0 0 (x.tdiv 86400000000000) ((x.tmod 86400000000000).tdiv 3600000000000) ((x.tmod 3600000000000).tdiv 60000000000) ((x.tmod 60000000000).tdiv 1000000000) (x.tmod 1000000000)) : Fn 97 [] [wv x, .int .i64 4] (.tuple #[duv 0 0 0 (x.tdiv 86400000000000) ((x.tmod 86400000000000).tdiv 3600000000000) ((x.tmod 3600000000000).tdiv 60000000000) ((x.tmod 60000000000).tdiv 1000000000) (x.tmod 1000000000), .int .i64 0]) := by
 obtain ⟨t0, m0⟩ := ttop x 86400000000000 hx (by omega) (by omega)
 have t1 := tch x 86400000000000 3600000000000 hx (by omega) (by omega) (by decide) (by omega) (by omega)
 have t2 := tch x 3600000000000 60000000000 hx (by omega) (by omega) (by decide) (by omega) (by omega)
 have t3 := tch x 60000000000 1000000000 hx (by omega) (by omega) (by decide) (by omega) (by omega)
 have t4 := tch x 1000000000 1 hx (by omega) (by omega) (by decide) (by omega) (by omega)
 rw [tdiv_1, tmod_1] at t4
 have g5 : I64 ((x.tmod 86400000000000).tdiv 3600000000000) := by have := td2 x 86400000000000 3600000000000 24 (by decide) (by omega) (by omega); unfold I64; omega
 have g6 : I64 ((x.tmod 3600000000000).tdiv 60000000000) := by have := td2 x 3600000000000 60000000000 60 (by decide) (by omega) (by omega); unfold I64; omega
 have g7 : I64 ((x.tmod 60000000000).tdiv 1000000000) := by have := td2 x 60000000000 1000000000 60 (by decide) (by omega) (by omega); unfold I64; omega
 have g8 : I64 (x.tmod 1000000000) := by
  obtain ⟨e1, e2, e3⟩ := td x 1000000000 (by omega)
  by_cases z : 0 ≤ x
  ·have := e2 z; unfold I64; omega
  ·have := e3 (by omega); unfold I64; omega
 have j1 : I64 86400000000000 := by unfold I64; omega
 have j2 : I64 3600000000000 := by unfold I64; omega
 have j3 : I64 60000000000 := by unfold I64; omega
 have j4 : I64 1000000000 := by unfold I64; omega
 have j5 : I64 1 := by unfold I64; omega
 have j0 : I64 0 := by unfold I64; omega
 have r := uright_y 0 0 0 (x.tdiv 86400000000000) ((x.tmod 86400000000000).tdiv 3600000000000) ((x.tmod 3600000000000).tdiv 60000000000) ((x.tmod 60000000000).tdiv 1000000000) (x.tmod 1000000000) ⟨j0, j0, j0, g, g5, g6, g7, g8⟩ k
 refine fn_of Tryz.func97 rfl fun ww => ?_
 refine qF ent63 (ulen4) ?_
 refine ufields_row 2 0 (by kernel_rfl) ?_
 refine st_round (by kernel_rfl) ?_
 refine qF ent63 (ulen4) ?_
 refine qF ent30 (wof_fn (86400000000000) (by assumption)) ?_
 refine qF ent139 (t0) ?_
 refine qF ent50 (wint_f (x.tdiv 86400000000000) (by assumption)) ?_
 refine qI 21 (4 + 1) ?_
 refine st_round (by kernel_rfl) ?_
 refine qF ent63 (ulen5) ?_
 refine qF ent30 (wof_fn (3600000000000) (by assumption)) ?_
 refine qF ent139 (t1) ?_
 refine qF ent50 (wint_f ((x.tmod 86400000000000).tdiv 3600000000000) (by assumption)) ?_
 refine qI 21 (4 + 1 + 1) ?_
 refine st_round (by kernel_rfl) ?_
 refine qF ent63 (ulen6) ?_
 refine qF ent30 (wof_fn (60000000000) (by assumption)) ?_
 refine qF ent139 (t2) ?_
 refine qF ent50 (wint_f ((x.tmod 3600000000000).tdiv 60000000000) (by assumption)) ?_
 refine qI 21 (4 + 1 + 1 + 1) ?_
 refine st_round (by kernel_rfl) ?_
 refine qF ent63 (ulen7) ?_
 refine qF ent30 (wof_fn (1000000000) (by assumption)) ?_
 refine qF ent139 (t3) ?_
 refine qF ent50 (wint_f ((x.tmod 60000000000).tdiv 1000000000) (by assumption)) ?_
 refine qI 21 (4 + 1 + 1 + 1 + 1) ?_
 refine st_round (by kernel_rfl) ?_
 refine qF ent63 (ulen8) ?_
 refine qF ent30 (wof_fn (1) (by assumption)) ?_
 refine qF ent139 (t4) ?_
 refine qF ent50 (wint_f (x.tmod 1000000000) (by assumption)) ?_
 refine qI 21 (4 + 1 + 1 + 1 + 1 + 1) ?_
 refine st_round (by kernel_rfl) ?_
 refine qF ent25 (r) ?_
 exact qR Tryz.func97
theorem ulay5_y (x : Int) (hx : W128 x) (g : I64 (x.tdiv 3600000000000)) (k : uOk 0 0 0 0 (x.tdiv 3600000000000) ((x.tmod 3600000000000).tdiv 60000000000) ((x.tmod 60000000000).tdiv 1000000000) (x.tmod 1000000000)) : Fn 97 [] [wv x, .int .i64 5] (.tuple #[duv 0 0 0 0 (x.tdiv 3600000000000) ((x.tmod 3600000000000).tdiv 60000000000) ((x.tmod 60000000000).tdiv 1000000000) (x.tmod 1000000000), .int .i64 0]) := by
 obtain ⟨t0, m0⟩ := ttop x 3600000000000 hx (by omega) (by omega)
 have t1 := tch x 3600000000000 60000000000 hx (by omega) (by omega) (by decide) (by omega) (by omega)
 have t2 := tch x 60000000000 1000000000 hx (by omega) (by omega) (by decide) (by omega) (by omega)
 have t3 := tch x 1000000000 1 hx (by omega) (by omega) (by decide) (by omega) (by omega)
 rw [tdiv_1, tmod_1] at t3
 have g6 : I64 ((x.tmod 3600000000000).tdiv 60000000000) := by have := td2 x 3600000000000 60000000000 60 (by decide) (by omega) (by omega); unfold I64; omega
 have g7 : I64 ((x.tmod 60000000000).tdiv 1000000000) := by have := td2 x 60000000000 1000000000 60 (by decide) (by omega) (by omega); unfold I64; omega
 have g8 : I64 (x.tmod 1000000000) := by
  obtain ⟨e1, e2, e3⟩ := td x 1000000000 (by omega)
  by_cases z : 0 ≤ x
  ·have := e2 z; unfold I64; omega
  ·have := e3 (by omega); unfold I64; omega
 have j1 : I64 86400000000000 := by unfold I64; omega
 have j2 : I64 3600000000000 := by unfold I64; omega
 have j3 : I64 60000000000 := by unfold I64; omega
 have j4 : I64 1000000000 := by unfold I64; omega
 have j5 : I64 1 := by unfold I64; omega
 have j0 : I64 0 := by unfold I64; omega
 have r := uright_y 0 0 0 0 (x.tdiv 3600000000000) ((x.tmod 3600000000000).tdiv 60000000000) ((x.tmod 60000000000).tdiv 1000000000) (x.tmod 1000000000) ⟨j0, j0, j0, j0, g, g6, g7, g8⟩ k
 refine fn_of Tryz.func97 rfl fun ww => ?_
 refine qF ent63 (ulen5) ?_
 refine ufields_row 2 0 (by kernel_rfl) ?_
 refine st_round (by kernel_rfl) ?_
 refine qF ent63 (ulen5) ?_
 refine qF ent30 (wof_fn (3600000000000) (by assumption)) ?_
 refine qF ent139 (t0) ?_
 refine qF ent50 (wint_f (x.tdiv 3600000000000) (by assumption)) ?_
 refine qI 21 (5 + 1) ?_
 refine st_round (by kernel_rfl) ?_
 refine qF ent63 (ulen6) ?_
 refine qF ent30 (wof_fn (60000000000) (by assumption)) ?_
 refine qF ent139 (t1) ?_
 refine qF ent50 (wint_f ((x.tmod 3600000000000).tdiv 60000000000) (by assumption)) ?_
 refine qI 21 (5 + 1 + 1) ?_
 refine st_round (by kernel_rfl) ?_
 refine qF ent63 (ulen7) ?_
 refine qF ent30 (wof_fn (1000000000) (by assumption)) ?_
 refine qF ent139 (t2) ?_
 refine qF ent50 (wint_f ((x.tmod 60000000000).tdiv 1000000000) (by assumption)) ?_
 refine qI 21 (5 + 1 + 1 + 1) ?_
 refine st_round (by kernel_rfl) ?_
 refine qF ent63 (ulen8) ?_
 refine qF ent30 (wof_fn (1) (by assumption)) ?_
 refine qF ent139 (t3) ?_
 refine qF ent50 (wint_f (x.tmod 1000000000) (by assumption)) ?_
 refine qI 21 (5 + 1 + 1 + 1 + 1) ?_
 refine st_round (by kernel_rfl) ?_
 refine qF ent25 (r) ?_
 exact qR Tryz.func97
theorem ulay6_y (x : Int) (hx : W128 x) (g : I64 (x.tdiv 60000000000)) (k : uOk 0 0 0 0 0 (x.tdiv 60000000000) ((x.tmod 60000000000).tdiv 1000000000) (x.tmod 1000000000)) : Fn 97 [] [wv x, .int .i64 6] (.tuple #[duv 0 0 0 0 0 (x.tdiv 60000000000) ((x.tmod 60000000000).tdiv 1000000000) (x.tmod 1000000000), .int .i64 0]) := by
 obtain ⟨t0, m0⟩ := ttop x 60000000000 hx (by omega) (by omega)
 have t1 := tch x 60000000000 1000000000 hx (by omega) (by omega) (by decide) (by omega) (by omega)
 have t2 := tch x 1000000000 1 hx (by omega) (by omega) (by decide) (by omega) (by omega)
 rw [tdiv_1, tmod_1] at t2
 have g7 : I64 ((x.tmod 60000000000).tdiv 1000000000) := by have := td2 x 60000000000 1000000000 60 (by decide) (by omega) (by omega); unfold I64; omega
 have g8 : I64 (x.tmod 1000000000) := by
  obtain ⟨e1, e2, e3⟩ := td x 1000000000 (by omega)
  by_cases z : 0 ≤ x
  ·have := e2 z; unfold I64; omega
  ·have := e3 (by omega); unfold I64; omega
 have j1 : I64 86400000000000 := by unfold I64; omega
 have j2 : I64 3600000000000 := by unfold I64; omega
 have j3 : I64 60000000000 := by unfold I64; omega
 have j4 : I64 1000000000 := by unfold I64; omega
 have j5 : I64 1 := by unfold I64; omega
 have j0 : I64 0 := by unfold I64; omega
 have r := uright_y 0 0 0 0 0 (x.tdiv 60000000000) ((x.tmod 60000000000).tdiv 1000000000) (x.tmod 1000000000) ⟨j0, j0, j0, j0, j0, g, g7, g8⟩ k
 refine fn_of Tryz.func97 rfl fun ww => ?_
 refine qF ent63 (ulen6) ?_
 refine ufields_row 2 0 (by kernel_rfl) ?_
 refine st_round (by kernel_rfl) ?_
 refine qF ent63 (ulen6) ?_
 refine qF ent30 (wof_fn (60000000000) (by assumption)) ?_
 refine qF ent139 (t0) ?_
 refine qF ent50 (wint_f (x.tdiv 60000000000) (by assumption)) ?_
 refine qI 21 (6 + 1) ?_
 refine st_round (by kernel_rfl) ?_
 refine qF ent63 (ulen7) ?_
 refine qF ent30 (wof_fn (1000000000) (by assumption)) ?_
 refine qF ent139 (t1) ?_
 refine qF ent50 (wint_f ((x.tmod 60000000000).tdiv 1000000000) (by assumption)) ?_
 refine qI 21 (6 + 1 + 1) ?_
 refine st_round (by kernel_rfl) ?_
 refine qF ent63 (ulen8) ?_
 refine qF ent30 (wof_fn (1) (by assumption)) ?_
 refine qF ent139 (t2) ?_
 refine qF ent50 (wint_f (x.tmod 1000000000) (by assumption)) ?_
 refine qI 21 (6 + 1 + 1 + 1) ?_
 refine st_round (by kernel_rfl) ?_
 refine qF ent25 (r) ?_
 exact qR Tryz.func97
theorem ulay7_y (x : Int) (hx : W128 x) (g : I64 (x.tdiv 1000000000)) (k : uOk 0 0 0 0 0 0 (x.tdiv 1000000000) (x.tmod 1000000000)) : Fn 97 [] [wv x, .int .i64 7] (.tuple #[duv 0 0 0 0 0 0 (x.tdiv 1000000000) (x.tmod 1000000000), .int .i64 0]) := by
 obtain ⟨t0, m0⟩ := ttop x 1000000000 hx (by omega) (by omega)
 have t1 := tch x 1000000000 1 hx (by omega) (by omega) (by decide) (by omega) (by omega)
 rw [tdiv_1, tmod_1] at t1
 have g8 : I64 (x.tmod 1000000000) := by
  obtain ⟨e1, e2, e3⟩ := td x 1000000000 (by omega)
  by_cases z : 0 ≤ x
  ·have := e2 z; unfold I64; omega
  ·have := e3 (by omega); unfold I64; omega
 have j1 : I64 86400000000000 := by unfold I64; omega
 have j2 : I64 3600000000000 := by unfold I64; omega
 have j3 : I64 60000000000 := by unfold I64; omega
 have j4 : I64 1000000000 := by unfold I64; omega
 have j5 : I64 1 := by unfold I64; omega
 have j0 : I64 0 := by unfold I64; omega
 have r := uright_y 0 0 0 0 0 0 (x.tdiv 1000000000) (x.tmod 1000000000) ⟨j0, j0, j0, j0, j0, j0, g, g8⟩ k
 refine fn_of Tryz.func97 rfl fun ww => ?_
 refine qF ent63 (ulen7) ?_
 refine ufields_row 2 0 (by kernel_rfl) ?_
 refine st_round (by kernel_rfl) ?_
 refine qF ent63 (ulen7) ?_
 refine qF ent30 (wof_fn (1000000000) (by assumption)) ?_
 refine qF ent139 (t0) ?_
 refine qF ent50 (wint_f (x.tdiv 1000000000) (by assumption)) ?_
 refine qI 21 (7 + 1) ?_
 refine st_round (by kernel_rfl) ?_
 refine qF ent63 (ulen8) ?_
 refine qF ent30 (wof_fn (1) (by assumption)) ?_
 refine qF ent139 (t1) ?_
 refine qF ent50 (wint_f (x.tmod 1000000000) (by assumption)) ?_
 refine qI 21 (7 + 1 + 1) ?_
 refine st_round (by kernel_rfl) ?_
 refine qF ent25 (r) ?_
 exact qR Tryz.func97
theorem ulay8_y (x : Int) (hx : W128 x) (g : I64 x) (k : uOk 0 0 0 0 0 0 0 x) : Fn 97 [] [wv x, .int .i64 8] (.tuple #[duv 0 0 0 0 0 0 0 x, .int .i64 0]) := by
 obtain ⟨t0, m0⟩ := ttop x 1 hx (by omega) (by omega)
 rw [tdiv_1, tmod_1] at t0
 have j1 : I64 86400000000000 := by unfold I64; omega
 have j2 : I64 3600000000000 := by unfold I64; omega
 have j3 : I64 60000000000 := by unfold I64; omega
 have j4 : I64 1000000000 := by unfold I64; omega
 have j5 : I64 1 := by unfold I64; omega
 have j0 : I64 0 := by unfold I64; omega
 have r := uright_y 0 0 0 0 0 0 0 x ⟨j0, j0, j0, j0, j0, j0, j0, g⟩ k
 refine fn_of Tryz.func97 rfl fun ww => ?_
 refine qF ent63 (ulen8) ?_
 refine ufields_row 2 0 (by kernel_rfl) ?_
 refine st_round (by kernel_rfl) ?_
 refine qF ent63 (ulen8) ?_
 refine qF ent30 (wof_fn (1) (by assumption)) ?_
 refine qF ent139 (t0) ?_
 refine qF ent50 (wint_f (x) (by assumption)) ?_
 refine qI 21 (8 + 1) ?_
 refine st_round (by kernel_rfl) ?_
 refine qF ent25 (r) ?_
 exact qR Tryz.func97
end Go.Proofs.YthoedmikfpbfnaaGreat
end
section
/-
 The law RoundMirrors, walked.
-/
set_option linter.unusedVariables false
set_option maxRecDepth 100000
namespace Go.Proofs.YthoedmikfpbfnaaGreat
open Go Go.RowKit Go.Ev

theorem min_yes : (hi (-170141183460469231731687303715884105728) == -9223372036854775808 && (lo (-170141183460469231731687303715884105728) == 0 && true)) = true := by decide
theorem min_no {y : Int} (h : y ≠ -170141183460469231731687303715884105728) : (hi y == -9223372036854775808 && (lo y == 0 && true)) = false := by
 have e := hi_lo y
 cases k : (hi y == -9223372036854775808 && (lo y == 0 && true)) with
 | false => rfl
 | true =>
  simp only [Bool.and_true, Bool.and_eq_true, beq_iff_eq] at k
  omega
end Go.Proofs.YthoedmikfpbfnaaGreat
end
section
/-
 The law RoundRises, walked.
-/
set_option linter.unusedVariables false
set_option maxRecDepth 100000
namespace Go.Proofs.YthoedmikfpbfnaaGreat
open Go Go.RowKit Go.Ev

theorem cmpI_3 (a b : Int) : cmpI a b = -1 ∨ cmpI a b = 0 ∨ cmpI a b = 1 := by unfold cmpI; split <;> (try split) <;> simp
end Go.Proofs.YthoedmikfpbfnaaGreat
end
section
/-
 Ratio, by the program and by the reference.
-/
set_option linter.unusedVariables false
set_option maxRecDepth 100000
namespace Go.Proofs.YthoedmikfpbfnaaGreat
open Go Go.RowKit Go.Ev

def nN (n d : Int) : Int := if d < 0 then -n else n
def nD (d : Int) : Int := if d < 0 then -d else d
theorem z_neg {w : World} {q : ZQ} {x : Int} (h : ZOf q x w) : q.n = decide (x < 0) := (isZ_sign h).2
theorem rat_ext (n d mode : Int) (v : Value) (a b c : Int) (h1 : 1 ≤ mode) (h2 : mode ≤ 9) (hf : Fn 41 [] [wv n, wv d] (.tuple #[.agg #[.int .i64 0, .int .u64 0], .agg #[.int .i64 0, .int .u64 0], .int .i64 2]))
  (he : Fn 106 [] [wv n, wv d, .int .i64 mode] (.tuple #[.agg #[.int .i64 a, .int .u64 b], .int .i64 c])) : Fn 49 [] [wv n, wv d, .int .i64 mode] (.tuple #[.agg #[.int .i64 a, .int .u64 b], .int .i64 c]) := by
 refine fn_of Tryz.func49 rfl fun ww => ?_
 refine qN 17 (decide (mode < 1)) ?_
 refine qN 20 (decide (mode > 9)) ?_
 refine qF ent41 (hf) ?_
 refine qF ent106 (he) ?_
 exact qR Tryz.func49
theorem rat_ok (n d mode p q : Int) (h1 : 1 ≤ mode) (h2 : mode ≤ 9) (hf : Fn 41 [] [wv n, wv d] (.tuple #[wv p, wv q, .int .i64 0])) (hp : W128 p) (hq : W128 q) (h0 : 0 < q) :
  Fn 49 [] [wv n, wv d, .int .i64 mode] (rtv (nearQ p q mode)) := by
 obtain ⟨hd, r0, r1, e⟩ := fl_bd hp h0
 have hne : q ≠ 0 := by omega
 have hr : W128 (p.fmod q) := by unfold W128 at *; omega
 have hl : W128 (q - p.fmod q) := by unfold W128 at *; omega
 by_cases hz : p.fmod q = 0
 ·have hy : nearQ p q mode = p.fdiv q := by unfold nearQ; rw [if_pos hz]
  have hb := wz_yes hz
  rw [hy, rtv_yes hd]
  refine fn_of Tryz.func49 rfl fun ww => ?_
  refine qN 17 (decide (mode < 1)) ?_
  refine qN 20 (decide (mode > 9)) ?_
  refine qF ent41 (hf) ?_
  refine qF ent107 (dfloor_yes (p) (q) (by assumption) (by assumption) (by assumption) (by assumption)) ?_
  refine qV 53 (show (hi (p.fmod q) == 0 && (lo (p.fmod q) == 0 && true)) = true by assumption) ?_
  exact qR Tryz.func49
 ·have hb := wz_no hz
  by_cases hu : upQ p q mode = true
  ·have hu' : upB mode (decide (p < 0)) (cmpI (p.fmod q) (q - p.fmod q)) (decide (p.fdiv q % 2 = 0)) = true := hu
   have hy : nearQ p q mode = p.fdiv q + 1 := by unfold nearQ; rw [if_neg hz, if_pos hu]
   rw [hy]
   refine fn_of Tryz.func49 rfl fun ww => ?_
   refine qN 17 (decide (mode < 1)) ?_
   refine qN 20 (decide (mode > 9)) ?_
   refine qF ent41 (hf) ?_
   refine qF ent107 (dfloor_yes (p) (q) (by assumption) (by assumption) (by assumption) (by assumption)) ?_
   refine qV 53 (show (hi (p.fmod q) == 0 && (lo (p.fmod q) == 0 && true)) = false by assumption) ?_
   refine qV 62 (dec_hi p) ?_
   refine qF ent109 (between_fn (p.fdiv q) (p.fmod q) (q) (decide (p < 0)) (by assumption) (by assumption) (by assumption)) ?_
   refine qF ent108 (up_t (mode) (decide (p < 0)) (cmpI (p.fmod q) (q - p.fmod q)) (decide (p.fdiv q % 2 = 0)) (by assumption) (by assumption) (by assumption)) ?_
   refine qF ent30 (wof_fn (1) (by (unfold I64; omega))) ?_
   refine qF ent44 (wadd_any (p.fdiv q) (1) (by assumption) (by (unfold W128; omega))) ?_
   exact qR Tryz.func49
  ·have hu' : upB mode (decide (p < 0)) (cmpI (p.fmod q) (q - p.fmod q)) (decide (p.fdiv q % 2 = 0)) = false := (Bool.not_eq_true _).mp hu
   have hy : nearQ p q mode = p.fdiv q := by unfold nearQ; rw [if_neg hz, if_neg hu]
   rw [hy, rtv_yes hd]
   refine fn_of Tryz.func49 rfl fun ww => ?_
   refine qN 17 (decide (mode < 1)) ?_
   refine qN 20 (decide (mode > 9)) ?_
   refine qF ent41 (hf) ?_
   refine qF ent107 (dfloor_yes (p) (q) (by assumption) (by assumption) (by assumption) (by assumption)) ?_
   refine qV 53 (show (hi (p.fmod q) == 0 && (lo (p.fmod q) == 0 && true)) = false by assumption) ?_
   refine qV 62 (dec_hi p) ?_
   refine qF ent109 (between_fn (p.fdiv q) (p.fmod q) (q) (decide (p < 0)) (by assumption) (by assumption) (by assumption)) ?_
   refine qF ent108 (up_f (mode) (decide (p < 0)) (cmpI (p.fmod q) (q - p.fmod q)) (decide (p.fdiv q % 2 = 0)) (by assumption) (by assumption) (by assumption)) ?_
   exact qR Tryz.func49
end Go.Proofs.YthoedmikfpbfnaaGreat
end
section
/-
 A total laid out, as the reference does it.
-/
set_option linter.unusedVariables false
set_option maxRecDepth 100000
namespace Go.Proofs.YthoedmikfpbfnaaGreat
open Go Go.RowKit Go.Ev

section
variable (p q : ZQ) (y A B : Int)
theorem zdt (h0 : 0 ≤ y) (hy : Bits 900 y) (hB : 0 < B) (hB2 : Bits 900 B) : FnZZ 75 [(p, y), (q, B)] [zv p, zv q] (fun q => .tuple #[zv q.1, zv q.2]) (y.tdiv B) (y.tmod B) := by
 have t := fzdiv p q y B (hy.mono (by decide)) (hB2.mono (by decide)) (by omega)
 rwa [Int.fdiv_eq_ediv_of_nonneg _ (by omega), Int.fmod_eq_emod_of_nonneg _ (by omega), ← Int.tdiv_eq_ediv_of_nonneg h0, ← Int.tmod_eq_emod_of_nonneg h0] at t
theorem tmod_nb (h0 : 0 ≤ y) (hA : 0 < A) (hA2 : Bits 900 A) : 0 ≤ y.tmod A ∧ Bits 900 (y.tmod A) := by
 have e := (td y A hA).2.1 h0
 exact ⟨e.2.1, hA2.le (by omega)⟩
theorem zdc (h0 : 0 ≤ y) (hA : 0 < A) (hA2 : Bits 900 A) (hB : 0 < B) (hB2 : Bits 900 B) (hd : B ∣ A) : FnZZ 75 [(p, y.tmod A), (q, B)] [zv p, zv q] (fun q => .tuple #[zv q.1, zv q.2]) ((y.tmod A).tdiv B) (y.tmod B) := by
 obtain ⟨a, b⟩ := tmod_nb y A h0 hA hA2
 have t := zdt p q (y.tmod A) B a b hB hB2
 rwa [Int.tmod_tmod_of_dvd y hd] at t
theorem tdvb (h0 : 0 ≤ y) (hy : Bits 900 y) (hB : 0 < B) : Bits 900 (y.tdiv B) := by
 obtain ⟨e1, e2, e3⟩ := td y B hB
 have g := e2 h0
 have : y.tdiv B ≤ y.tdiv B * B := by have := Int.mul_le_mul_of_nonneg_left (show 1 ≤ B by omega) g.1; omega
 exact hy.le (by omega)
theorem zng (hy : Bits 900 y) : FnZ 88 [(p, y)] [zv p] zv (-y) := fzneg p y (hy.fit (by decide))
end
theorem zulay4p_y (p : ZQ) (x : Int) (hx : W128 x) (h0 : 0 ≤ x) (g : I64 (x.tdiv 86400000000000)) (k : uOk 0 0 0 (x.tdiv 86400000000000) ((x.tmod 86400000000000).tdiv 3600000000000) ((x.tmod 3600000000000).tdiv 60000000000) ((x.tmod 60000000000).tdiv 1000000000) (x.tmod 1000000000)) : Fn 110 [(p, x)] [zv p, .int .i64 4] (.tuple #[duv 0 0 0 (x.tdiv 86400000000000) ((x.tmod 86400000000000).tdiv 3600000000000) ((x.tmod 3600000000000).tdiv 60000000000) ((x.tmod 60000000000).tdiv 1000000000) (x.tmod 1000000000), .int .i64 0]) := by
 have hy : Bits 900 x := hx.bits.mono (by decide)
 have y0 : 0 ≤ x := by omega
 have bL4 : Bits 900 86400000000000 := Bits.mono (show W128 86400000000000 by unfold W128; omega).bits (by decide)
 have bL5 : Bits 900 3600000000000 := Bits.mono (show W128 3600000000000 by unfold W128; omega).bits (by decide)
 have bL6 : Bits 900 60000000000 := Bits.mono (show W128 60000000000 by unfold W128; omega).bits (by decide)
 have bL7 : Bits 900 1000000000 := Bits.mono (show W128 1000000000 by unfold W128; omega).bits (by decide)
 have bL8 : Bits 900 1 := Bits.mono (show W128 1 by unfold W128; omega).bits (by decide)
 have j1 : I64 86400000000000 := by unfold I64; omega
 have j2 : I64 3600000000000 := by unfold I64; omega
 have j3 : I64 60000000000 := by unfold I64; omega
 have j4 : I64 1000000000 := by unfold I64; omega
 have j5 : I64 1 := by unfold I64; omega
 have j0 : I64 0 := by unfold I64; omega
 have fa : ∀ p : ZQ, FnZ 130 [(p, x)] [zv p] zv x := fun p => by
  have t := fzabs p x (hx.bits.fit (by decide))
  rwa [show ((x.natAbs : Nat) : Int) = x by omega] at t
 have d0 : ∀ p q : ZQ, FnZZ 75 [(p, x), (q, 86400000000000)] [zv p, zv q] (fun q => .tuple #[zv q.1, zv q.2]) (x.tdiv 86400000000000) (x.tmod 86400000000000) := fun p q => zdt p q x 86400000000000 y0 hy (by omega) bL4
 have d1 : ∀ p q : ZQ, FnZZ 75 [(p, x.tmod 86400000000000), (q, 3600000000000)] [zv p, zv q] (fun q => .tuple #[zv q.1, zv q.2]) ((x.tmod 86400000000000).tdiv 3600000000000) (x.tmod 3600000000000) := fun p q => zdc p q x 86400000000000 3600000000000 y0 (by omega) bL4 (by omega) bL5 (by decide)
 have d2 : ∀ p q : ZQ, FnZZ 75 [(p, x.tmod 3600000000000), (q, 60000000000)] [zv p, zv q] (fun q => .tuple #[zv q.1, zv q.2]) ((x.tmod 3600000000000).tdiv 60000000000) (x.tmod 60000000000) := fun p q => zdc p q x 3600000000000 60000000000 y0 (by omega) bL5 (by omega) bL6 (by decide)
 have d3 : ∀ p q : ZQ, FnZZ 75 [(p, x.tmod 60000000000), (q, 1000000000)] [zv p, zv q] (fun q => .tuple #[zv q.1, zv q.2]) ((x.tmod 60000000000).tdiv 1000000000) (x.tmod 1000000000) := fun p q => zdc p q x 60000000000 1000000000 y0 (by omega) bL6 (by omega) bL7 (by decide)
 have d4 : ∀ p q : ZQ, FnZZ 75 [(p, x.tmod 1000000000), (q, 1)] [zv p, zv q] (fun q => .tuple #[zv q.1, zv q.2]) ((x.tmod 1000000000).tdiv 1) (x.tmod 1) := fun p q => zdc p q x 1000000000 1 y0 (by omega) bL7 (by omega) bL8 (by decide)
 have g5 : I64 ((x.tmod 86400000000000).tdiv 3600000000000) := by have := td2 x 86400000000000 3600000000000 24 (by decide) (by omega) (by omega); unfold I64; omega
 have g6 : I64 ((x.tmod 3600000000000).tdiv 60000000000) := by have := td2 x 3600000000000 60000000000 60 (by decide) (by omega) (by omega); unfold I64; omega
 have g7 : I64 ((x.tmod 60000000000).tdiv 1000000000) := by have := td2 x 60000000000 1000000000 60 (by decide) (by omega) (by omega); unfold I64; omega
 have g8 : I64 (x.tmod 1000000000) := by
  obtain ⟨e1, e2, e3⟩ := td x 1000000000 (by omega)
  by_cases z : 0 ≤ x
  ·have := e2 z; unfold I64; omega
  ·have := e3 (by omega); unfold I64; omega
 have f0 : ∀ p : ZQ, Fn 36 [(p, x.tdiv 86400000000000)] [zv p] (.tuple #[.int .i64 (x.tdiv 86400000000000), .bool true]) := fun p => by
  have t := fits_f p (x.tdiv 86400000000000) (g.w.bits.mono (by decide)) g
  exact t
 have f1 : ∀ p : ZQ, Fn 36 [(p, (x.tmod 86400000000000).tdiv 3600000000000)] [zv p] (.tuple #[.int .i64 ((x.tmod 86400000000000).tdiv 3600000000000), .bool true]) := fun p => by
  have t := fits_f p ((x.tmod 86400000000000).tdiv 3600000000000) (g5.w.bits.mono (by decide)) g5
  exact t
 have f2 : ∀ p : ZQ, Fn 36 [(p, (x.tmod 3600000000000).tdiv 60000000000)] [zv p] (.tuple #[.int .i64 ((x.tmod 3600000000000).tdiv 60000000000), .bool true]) := fun p => by
  have t := fits_f p ((x.tmod 3600000000000).tdiv 60000000000) (g6.w.bits.mono (by decide)) g6
  exact t
 have f3 : ∀ p : ZQ, Fn 36 [(p, (x.tmod 60000000000).tdiv 1000000000)] [zv p] (.tuple #[.int .i64 ((x.tmod 60000000000).tdiv 1000000000), .bool true]) := fun p => by
  have t := fits_f p ((x.tmod 60000000000).tdiv 1000000000) (g7.w.bits.mono (by decide)) g7
  exact t
 have f4 : ∀ p : ZQ, Fn 36 [(p, (x.tmod 1000000000).tdiv 1)] [zv p] (.tuple #[.int .i64 (x.tmod 1000000000), .bool true]) := fun p => by
  have t := fits_f p (x.tmod 1000000000) (g8.w.bits.mono (by decide)) g8
  simpa only [tdiv_1] using t
 have r := zuright_y 0 0 0 (x.tdiv 86400000000000) ((x.tmod 86400000000000).tdiv 3600000000000) ((x.tmod 3600000000000).tdiv 60000000000) ((x.tmod 60000000000).tdiv 1000000000) (x.tmod 1000000000) ⟨j0, j0, j0, g, g5, g6, g7, g8⟩ k
 refine fn_of Tryz.func110 rfl fun ww => ?_
 refine st_know (p := p.n = false) (fun w hw => by rw [z_neg (hw (p, x) (by simp))]; simp; omega) fun hn => ?_
 clear hy y0 g hx k
 refine qF ent85 (zulen4) ?_
 refine st_g ent130 (fa (p)) (subC 0 rfl sub0) (by kernel_rfl) (fun zq1 => ?_)
 refine st_round (by kernel_rfl) ?_
 refine qF ent85 (zulen4) ?_
 refine qZ ent11 (fzint (86400000000000) (by assumption)) fun zq3 => ?_
 refine st_g ent75 (d0 (zq1) (zq3)) (subC 1 rfl (subC 0 rfl sub0)) (by kernel_rfl) (fun zq4 => ?_)
 refine qV 34 (show (p.n) = false by assumption) ?_
 refine st_fn ent36 (f0 (zq4.fst)) (subC 0 rfl sub0) (by kernel_rfl) ?_
 refine qI 46 (4 - 1) ?_
 refine qI 24 (4 + 1) ?_
 refine st_round (by kernel_rfl) ?_
 refine qF ent85 (zulen5) ?_
 refine qZ ent11 (fzint (3600000000000) (by assumption)) fun zq7 => ?_
 refine st_g ent75 (d1 (zq4.snd) (zq7)) (subC 2 rfl (subC 0 rfl sub0)) (by kernel_rfl) (fun zq8 => ?_)
 refine qV 34 (show (p.n) = false by assumption) ?_
 refine st_fn ent36 (f1 (zq8.fst)) (subC 0 rfl sub0) (by kernel_rfl) ?_
 refine qI 46 (4 + 1 - 1) ?_
 refine qI 24 (4 + 1 + 1) ?_
 refine st_round (by kernel_rfl) ?_
 refine qF ent85 (zulen6) ?_
 refine qZ ent11 (fzint (60000000000) (by assumption)) fun zq11 => ?_
 refine st_g ent75 (d2 (zq8.snd) (zq11)) (subC 2 rfl (subC 0 rfl sub0)) (by kernel_rfl) (fun zq12 => ?_)
 refine qV 34 (show (p.n) = false by assumption) ?_
 refine st_fn ent36 (f2 (zq12.fst)) (subC 0 rfl sub0) (by kernel_rfl) ?_
 refine qI 46 (4 + 1 + 1 - 1) ?_
 refine qI 24 (4 + 1 + 1 + 1) ?_
 refine st_round (by kernel_rfl) ?_
 refine qF ent85 (zulen7) ?_
 refine qZ ent11 (fzint (1000000000) (by assumption)) fun zq15 => ?_
 refine st_g ent75 (d3 (zq12.snd) (zq15)) (subC 2 rfl (subC 0 rfl sub0)) (by kernel_rfl) (fun zq16 => ?_)
 refine qV 34 (show (p.n) = false by assumption) ?_
 refine st_fn ent36 (f3 (zq16.fst)) (subC 0 rfl sub0) (by kernel_rfl) ?_
 refine qI 46 (4 + 1 + 1 + 1 - 1) ?_
 refine qI 24 (4 + 1 + 1 + 1 + 1) ?_
 refine st_round (by kernel_rfl) ?_
 refine qF ent85 (zulen8) ?_
 refine qZ ent11 (fzint (1) (by assumption)) fun zq19 => ?_
 refine st_g ent75 (d4 (zq16.snd) (zq19)) (subC 2 rfl (subC 0 rfl sub0)) (by kernel_rfl) (fun zq20 => ?_)
 refine qV 34 (show (p.n) = false by assumption) ?_
 refine st_fn ent36 (f4 (zq20.fst)) (subC 0 rfl sub0) (by kernel_rfl) ?_
 refine qI 46 (4 + 1 + 1 + 1 + 1 - 1) ?_
 refine qI 24 (4 + 1 + 1 + 1 + 1 + 1) ?_
 refine st_round (by kernel_rfl) ?_
 refine qF ent156 (zumade (0) (0) (0) (x.tdiv 86400000000000) ((x.tmod 86400000000000).tdiv 3600000000000) ((x.tmod 3600000000000).tdiv 60000000000) ((x.tmod 60000000000).tdiv 1000000000) (x.tmod 1000000000)) ?_
 refine qF ent89 (r) ?_
 exact qR Tryz.func110
theorem zulay4n_y (p : ZQ) (x : Int) (hx : W128 x) (h0 : x < 0) (g : I64 (x.tdiv 86400000000000)) (k : uOk 0 0 0 (x.tdiv 86400000000000) ((x.tmod 86400000000000).tdiv 3600000000000) ((x.tmod 3600000000000).tdiv 60000000000) ((x.tmod 60000000000).tdiv 1000000000) (x.tmod 1000000000)) : Fn 110 [(p, x)] [zv p, .int .i64 4] (.tuple #[duv 0 0 0 (x.tdiv 86400000000000) ((x.tmod 86400000000000).tdiv 3600000000000) ((x.tmod 3600000000000).tdiv 60000000000) ((x.tmod 60000000000).tdiv 1000000000) (x.tmod 1000000000), .int .i64 0]) := by
 have hy : Bits 900 (-x) := (hx.bits.neg).mono (by decide)
 have y0 : 0 ≤ (-x) := by omega
 have bL4 : Bits 900 86400000000000 := Bits.mono (show W128 86400000000000 by unfold W128; omega).bits (by decide)
 have bL5 : Bits 900 3600000000000 := Bits.mono (show W128 3600000000000 by unfold W128; omega).bits (by decide)
 have bL6 : Bits 900 60000000000 := Bits.mono (show W128 60000000000 by unfold W128; omega).bits (by decide)
 have bL7 : Bits 900 1000000000 := Bits.mono (show W128 1000000000 by unfold W128; omega).bits (by decide)
 have bL8 : Bits 900 1 := Bits.mono (show W128 1 by unfold W128; omega).bits (by decide)
 have j1 : I64 86400000000000 := by unfold I64; omega
 have j2 : I64 3600000000000 := by unfold I64; omega
 have j3 : I64 60000000000 := by unfold I64; omega
 have j4 : I64 1000000000 := by unfold I64; omega
 have j5 : I64 1 := by unfold I64; omega
 have j0 : I64 0 := by unfold I64; omega
 have fa : ∀ p : ZQ, FnZ 130 [(p, x)] [zv p] zv (-x) := fun p => by
  have t := fzabs p x (hx.bits.fit (by decide))
  rwa [show ((x.natAbs : Nat) : Int) = -x by omega] at t
 have d0 : ∀ p q : ZQ, FnZZ 75 [(p, (-x)), (q, 86400000000000)] [zv p, zv q] (fun q => .tuple #[zv q.1, zv q.2]) ((-x).tdiv 86400000000000) ((-x).tmod 86400000000000) := fun p q => zdt p q (-x) 86400000000000 y0 hy (by omega) bL4
 have d1 : ∀ p q : ZQ, FnZZ 75 [(p, (-x).tmod 86400000000000), (q, 3600000000000)] [zv p, zv q] (fun q => .tuple #[zv q.1, zv q.2]) (((-x).tmod 86400000000000).tdiv 3600000000000) ((-x).tmod 3600000000000) := fun p q => zdc p q (-x) 86400000000000 3600000000000 y0 (by omega) bL4 (by omega) bL5 (by decide)
 have d2 : ∀ p q : ZQ, FnZZ 75 [(p, (-x).tmod 3600000000000), (q, 60000000000)] [zv p, zv q] (fun q => .tuple #[zv q.1, zv q.2]) (((-x).tmod 3600000000000).tdiv 60000000000) ((-x).tmod 60000000000) := fun p q => zdc p q (-x) 3600000000000 60000000000 y0 (by omega) bL5 (by omega) bL6 (by decide)
 have d3 : ∀ p q : ZQ, FnZZ 75 [(p, (-x).tmod 60000000000), (q, 1000000000)] [zv p, zv q] (fun q => .tuple #[zv q.1, zv q.2]) (((-x).tmod 60000000000).tdiv 1000000000) ((-x).tmod 1000000000) := fun p q => zdc p q (-x) 60000000000 1000000000 y0 (by omega) bL6 (by omega) bL7 (by decide)
 have d4 : ∀ p q : ZQ, FnZZ 75 [(p, (-x).tmod 1000000000), (q, 1)] [zv p, zv q] (fun q => .tuple #[zv q.1, zv q.2]) (((-x).tmod 1000000000).tdiv 1) ((-x).tmod 1) := fun p q => zdc p q (-x) 1000000000 1 y0 (by omega) bL7 (by omega) bL8 (by decide)
 have g5 : I64 ((x.tmod 86400000000000).tdiv 3600000000000) := by have := td2 x 86400000000000 3600000000000 24 (by decide) (by omega) (by omega); unfold I64; omega
 have g6 : I64 ((x.tmod 3600000000000).tdiv 60000000000) := by have := td2 x 3600000000000 60000000000 60 (by decide) (by omega) (by omega); unfold I64; omega
 have g7 : I64 ((x.tmod 60000000000).tdiv 1000000000) := by have := td2 x 60000000000 1000000000 60 (by decide) (by omega) (by omega); unfold I64; omega
 have g8 : I64 (x.tmod 1000000000) := by
  obtain ⟨e1, e2, e3⟩ := td x 1000000000 (by omega)
  by_cases z : 0 ≤ x
  ·have := e2 z; unfold I64; omega
  ·have := e3 (by omega); unfold I64; omega
 have n0 : ∀ p : ZQ, FnZ 88 [(p, (-x).tdiv 86400000000000)] [zv p] zv (x.tdiv 86400000000000) := fun p => by
  have t := zng p ((-x).tdiv 86400000000000) (tdvb (-x) 86400000000000 y0 hy (by omega))
  rwa [show -((-x).tdiv 86400000000000) = (x.tdiv 86400000000000) by rw [Int.neg_tdiv, Int.neg_neg]] at t
 have f0 : ∀ p : ZQ, Fn 36 [(p, (x.tdiv 86400000000000))] [zv p] (.tuple #[.int .i64 (x.tdiv 86400000000000), .bool true]) := fun p => by
  have t := fits_f p (x.tdiv 86400000000000) (g.w.bits.mono (by decide)) g
  exact t
 have n1 : ∀ p : ZQ, FnZ 88 [(p, ((-x).tmod 86400000000000).tdiv 3600000000000)] [zv p] zv ((x.tmod 86400000000000).tdiv 3600000000000) := fun p => by
  have t := zng p (((-x).tmod 86400000000000).tdiv 3600000000000) (tdvb _ 3600000000000 (tmod_nb (-x) 86400000000000 y0 (by omega) bL4).1 (tmod_nb (-x) 86400000000000 y0 (by omega) bL4).2 (by omega))
  rwa [show -(((-x).tmod 86400000000000).tdiv 3600000000000) = ((x.tmod 86400000000000).tdiv 3600000000000) by rw [Int.neg_tmod, Int.neg_tdiv, Int.neg_neg]] at t
 have f1 : ∀ p : ZQ, Fn 36 [(p, ((x.tmod 86400000000000).tdiv 3600000000000))] [zv p] (.tuple #[.int .i64 ((x.tmod 86400000000000).tdiv 3600000000000), .bool true]) := fun p => by
  have t := fits_f p ((x.tmod 86400000000000).tdiv 3600000000000) (g5.w.bits.mono (by decide)) g5
  exact t
 have n2 : ∀ p : ZQ, FnZ 88 [(p, ((-x).tmod 3600000000000).tdiv 60000000000)] [zv p] zv ((x.tmod 3600000000000).tdiv 60000000000) := fun p => by
  have t := zng p (((-x).tmod 3600000000000).tdiv 60000000000) (tdvb _ 60000000000 (tmod_nb (-x) 3600000000000 y0 (by omega) bL5).1 (tmod_nb (-x) 3600000000000 y0 (by omega) bL5).2 (by omega))
  rwa [show -(((-x).tmod 3600000000000).tdiv 60000000000) = ((x.tmod 3600000000000).tdiv 60000000000) by rw [Int.neg_tmod, Int.neg_tdiv, Int.neg_neg]] at t
 have f2 : ∀ p : ZQ, Fn 36 [(p, ((x.tmod 3600000000000).tdiv 60000000000))] [zv p] (.tuple #[.int .i64 ((x.tmod 3600000000000).tdiv 60000000000), .bool true]) := fun p => by
  have t := fits_f p ((x.tmod 3600000000000).tdiv 60000000000) (g6.w.bits.mono (by decide)) g6
  exact t
 have n3 : ∀ p : ZQ, FnZ 88 [(p, ((-x).tmod 60000000000).tdiv 1000000000)] [zv p] zv ((x.tmod 60000000000).tdiv 1000000000) := fun p => by
  have t := zng p (((-x).tmod 60000000000).tdiv 1000000000) (tdvb _ 1000000000 (tmod_nb (-x) 60000000000 y0 (by omega) bL6).1 (tmod_nb (-x) 60000000000 y0 (by omega) bL6).2 (by omega))
  rwa [show -(((-x).tmod 60000000000).tdiv 1000000000) = ((x.tmod 60000000000).tdiv 1000000000) by rw [Int.neg_tmod, Int.neg_tdiv, Int.neg_neg]] at t
 have f3 : ∀ p : ZQ, Fn 36 [(p, ((x.tmod 60000000000).tdiv 1000000000))] [zv p] (.tuple #[.int .i64 ((x.tmod 60000000000).tdiv 1000000000), .bool true]) := fun p => by
  have t := fits_f p ((x.tmod 60000000000).tdiv 1000000000) (g7.w.bits.mono (by decide)) g7
  exact t
 have n4 : ∀ p : ZQ, FnZ 88 [(p, ((-x).tmod 1000000000).tdiv 1)] [zv p] zv (x.tmod 1000000000) := fun p => by
  have t := zng p (((-x).tmod 1000000000).tdiv 1) (tdvb _ 1 (tmod_nb (-x) 1000000000 y0 (by omega) bL7).1 (tmod_nb (-x) 1000000000 y0 (by omega) bL7).2 (by omega))
  rwa [show -(((-x).tmod 1000000000).tdiv 1) = (x.tmod 1000000000) by rw [Int.neg_tmod, Int.neg_tdiv, Int.neg_neg, tdiv_1]] at t
 have f4 : ∀ p : ZQ, Fn 36 [(p, (x.tmod 1000000000))] [zv p] (.tuple #[.int .i64 (x.tmod 1000000000), .bool true]) := fun p => by
  have t := fits_f p (x.tmod 1000000000) (g8.w.bits.mono (by decide)) g8
  exact t
 have r := zuright_y 0 0 0 (x.tdiv 86400000000000) ((x.tmod 86400000000000).tdiv 3600000000000) ((x.tmod 3600000000000).tdiv 60000000000) ((x.tmod 60000000000).tdiv 1000000000) (x.tmod 1000000000) ⟨j0, j0, j0, g, g5, g6, g7, g8⟩ k
 refine fn_of Tryz.func110 rfl fun ww => ?_
 refine st_know (p := p.n = true) (fun w hw => by rw [z_neg (hw (p, x) (by simp))]; simp; omega) fun hn => ?_
 clear hy y0 g hx k
 refine qF ent85 (zulen4) ?_
 refine st_g ent130 (fa (p)) (subC 0 rfl sub0) (by kernel_rfl) (fun zq1 => ?_)
 refine st_round (by kernel_rfl) ?_
 refine qF ent85 (zulen4) ?_
 refine qZ ent11 (fzint (86400000000000) (by assumption)) fun zq3 => ?_
 refine st_g ent75 (d0 (zq1) (zq3)) (subC 1 rfl (subC 0 rfl sub0)) (by kernel_rfl) (fun zq4 => ?_)
 refine qV 34 (show (p.n) = true by assumption) ?_
 refine st_g ent88 (n0 (zq4.fst)) (subC 0 rfl sub0) (by kernel_rfl) (fun zq5 => ?_)
 refine st_fn ent36 (f0 (zq5)) (subC 0 rfl sub0) (by kernel_rfl) ?_
 refine qI 46 (4 - 1) ?_
 refine qI 24 (4 + 1) ?_
 refine st_round (by kernel_rfl) ?_
 refine qF ent85 (zulen5) ?_
 refine qZ ent11 (fzint (3600000000000) (by assumption)) fun zq8 => ?_
 refine st_g ent75 (d1 (zq4.snd) (zq8)) (subC 3 rfl (subC 0 rfl sub0)) (by kernel_rfl) (fun zq9 => ?_)
 refine qV 34 (show (p.n) = true by assumption) ?_
 refine st_g ent88 (n1 (zq9.fst)) (subC 0 rfl sub0) (by kernel_rfl) (fun zq10 => ?_)
 refine st_fn ent36 (f1 (zq10)) (subC 0 rfl sub0) (by kernel_rfl) ?_
 refine qI 46 (4 + 1 - 1) ?_
 refine qI 24 (4 + 1 + 1) ?_
 refine st_round (by kernel_rfl) ?_
 refine qF ent85 (zulen6) ?_
 refine qZ ent11 (fzint (60000000000) (by assumption)) fun zq13 => ?_
 refine st_g ent75 (d2 (zq9.snd) (zq13)) (subC 3 rfl (subC 0 rfl sub0)) (by kernel_rfl) (fun zq14 => ?_)
 refine qV 34 (show (p.n) = true by assumption) ?_
 refine st_g ent88 (n2 (zq14.fst)) (subC 0 rfl sub0) (by kernel_rfl) (fun zq15 => ?_)
 refine st_fn ent36 (f2 (zq15)) (subC 0 rfl sub0) (by kernel_rfl) ?_
 refine qI 46 (4 + 1 + 1 - 1) ?_
 refine qI 24 (4 + 1 + 1 + 1) ?_
 refine st_round (by kernel_rfl) ?_
 refine qF ent85 (zulen7) ?_
 refine qZ ent11 (fzint (1000000000) (by assumption)) fun zq18 => ?_
 refine st_g ent75 (d3 (zq14.snd) (zq18)) (subC 3 rfl (subC 0 rfl sub0)) (by kernel_rfl) (fun zq19 => ?_)
 refine qV 34 (show (p.n) = true by assumption) ?_
 refine st_g ent88 (n3 (zq19.fst)) (subC 0 rfl sub0) (by kernel_rfl) (fun zq20 => ?_)
 refine st_fn ent36 (f3 (zq20)) (subC 0 rfl sub0) (by kernel_rfl) ?_
 refine qI 46 (4 + 1 + 1 + 1 - 1) ?_
 refine qI 24 (4 + 1 + 1 + 1 + 1) ?_
 refine st_round (by kernel_rfl) ?_
 refine qF ent85 (zulen8) ?_
 refine qZ ent11 (fzint (1) (by assumption)) fun zq23 => ?_
 refine st_g ent75 (d4 (zq19.snd) (zq23)) (subC 3 rfl (subC 0 rfl sub0)) (by kernel_rfl) (fun zq24 => ?_)
 refine qV 34 (show (p.n) = true by assumption) ?_
 refine st_g ent88 (n4 (zq24.fst)) (subC 0 rfl sub0) (by kernel_rfl) (fun zq25 => ?_)
 refine st_fn ent36 (f4 (zq25)) (subC 0 rfl sub0) (by kernel_rfl) ?_
 refine qI 46 (4 + 1 + 1 + 1 + 1 - 1) ?_
 refine qI 24 (4 + 1 + 1 + 1 + 1 + 1) ?_
 refine st_round (by kernel_rfl) ?_
 refine qF ent156 (zumade (0) (0) (0) (x.tdiv 86400000000000) ((x.tmod 86400000000000).tdiv 3600000000000) ((x.tmod 3600000000000).tdiv 60000000000) ((x.tmod 60000000000).tdiv 1000000000) (x.tmod 1000000000)) ?_
 refine qF ent89 (r) ?_
 exact qR Tryz.func110
theorem zulay5p_y (p : ZQ) (x : Int) (hx : W128 x) (h0 : 0 ≤ x) (g : I64 (x.tdiv 3600000000000)) (k : uOk 0 0 0 0 (x.tdiv 3600000000000) ((x.tmod 3600000000000).tdiv 60000000000) ((x.tmod 60000000000).tdiv 1000000000) (x.tmod 1000000000)) : Fn 110 [(p, x)] [zv p, .int .i64 5] (.tuple #[duv 0 0 0 0 (x.tdiv 3600000000000) ((x.tmod 3600000000000).tdiv 60000000000) ((x.tmod 60000000000).tdiv 1000000000) (x.tmod 1000000000), .int .i64 0]) := by
 have hy : Bits 900 x := hx.bits.mono (by decide)
 have y0 : 0 ≤ x := by omega
 have bL4 : Bits 900 86400000000000 := Bits.mono (show W128 86400000000000 by unfold W128; omega).bits (by decide)
 have bL5 : Bits 900 3600000000000 := Bits.mono (show W128 3600000000000 by unfold W128; omega).bits (by decide)
 have bL6 : Bits 900 60000000000 := Bits.mono (show W128 60000000000 by unfold W128; omega).bits (by decide)
 have bL7 : Bits 900 1000000000 := Bits.mono (show W128 1000000000 by unfold W128; omega).bits (by decide)
 have bL8 : Bits 900 1 := Bits.mono (show W128 1 by unfold W128; omega).bits (by decide)
 have j1 : I64 86400000000000 := by unfold I64; omega
 have j2 : I64 3600000000000 := by unfold I64; omega
 have j3 : I64 60000000000 := by unfold I64; omega
 have j4 : I64 1000000000 := by unfold I64; omega
 have j5 : I64 1 := by unfold I64; omega
 have j0 : I64 0 := by unfold I64; omega
 have fa : ∀ p : ZQ, FnZ 130 [(p, x)] [zv p] zv x := fun p => by
  have t := fzabs p x (hx.bits.fit (by decide))
  rwa [show ((x.natAbs : Nat) : Int) = x by omega] at t
 have d0 : ∀ p q : ZQ, FnZZ 75 [(p, x), (q, 3600000000000)] [zv p, zv q] (fun q => .tuple #[zv q.1, zv q.2]) (x.tdiv 3600000000000) (x.tmod 3600000000000) := fun p q => zdt p q x 3600000000000 y0 hy (by omega) bL5
 have d1 : ∀ p q : ZQ, FnZZ 75 [(p, x.tmod 3600000000000), (q, 60000000000)] [zv p, zv q] (fun q => .tuple #[zv q.1, zv q.2]) ((x.tmod 3600000000000).tdiv 60000000000) (x.tmod 60000000000) := fun p q => zdc p q x 3600000000000 60000000000 y0 (by omega) bL5 (by omega) bL6 (by decide)
 have d2 : ∀ p q : ZQ, FnZZ 75 [(p, x.tmod 60000000000), (q, 1000000000)] [zv p, zv q] (fun q => .tuple #[zv q.1, zv q.2]) ((x.tmod 60000000000).tdiv 1000000000) (x.tmod 1000000000) := fun p q => zdc p q x 60000000000 1000000000 y0 (by omega) bL6 (by omega) bL7 (by decide)
 have d3 : ∀ p q : ZQ, FnZZ 75 [(p, x.tmod 1000000000), (q, 1)] [zv p, zv q] (fun q => .tuple #[zv q.1, zv q.2]) ((x.tmod 1000000000).tdiv 1) (x.tmod 1) := fun p q => zdc p q x 1000000000 1 y0 (by omega) bL7 (by omega) bL8 (by decide)
 have g6 : I64 ((x.tmod 3600000000000).tdiv 60000000000) := by have := td2 x 3600000000000 60000000000 60 (by decide) (by omega) (by omega); unfold I64; omega
 have g7 : I64 ((x.tmod 60000000000).tdiv 1000000000) := by have := td2 x 60000000000 1000000000 60 (by decide) (by omega) (by omega); unfold I64; omega
 have g8 : I64 (x.tmod 1000000000) := by
  obtain ⟨e1, e2, e3⟩ := td x 1000000000 (by omega)
  by_cases z : 0 ≤ x
  ·have := e2 z; unfold I64; omega
  ·have := e3 (by omega); unfold I64; omega
 have f0 : ∀ p : ZQ, Fn 36 [(p, x.tdiv 3600000000000)] [zv p] (.tuple #[.int .i64 (x.tdiv 3600000000000), .bool true]) := fun p => by
  have t := fits_f p (x.tdiv 3600000000000) (g.w.bits.mono (by decide)) g
  exact t
 have f1 : ∀ p : ZQ, Fn 36 [(p, (x.tmod 3600000000000).tdiv 60000000000)] [zv p] (.tuple #[.int .i64 ((x.tmod 3600000000000).tdiv 60000000000), .bool true]) := fun p => by
  have t := fits_f p ((x.tmod 3600000000000).tdiv 60000000000) (g6.w.bits.mono (by decide)) g6
  exact t
 have f2 : ∀ p : ZQ, Fn 36 [(p, (x.tmod 60000000000).tdiv 1000000000)] [zv p] (.tuple #[.int .i64 ((x.tmod 60000000000).tdiv 1000000000), .bool true]) := fun p => by
  have t := fits_f p ((x.tmod 60000000000).tdiv 1000000000) (g7.w.bits.mono (by decide)) g7
  exact t
 have f3 : ∀ p : ZQ, Fn 36 [(p, (x.tmod 1000000000).tdiv 1)] [zv p] (.tuple #[.int .i64 (x.tmod 1000000000), .bool true]) := fun p => by
  have t := fits_f p (x.tmod 1000000000) (g8.w.bits.mono (by decide)) g8
  simpa only [tdiv_1] using t
 have r := zuright_y 0 0 0 0 (x.tdiv 3600000000000) ((x.tmod 3600000000000).tdiv 60000000000) ((x.tmod 60000000000).tdiv 1000000000) (x.tmod 1000000000) ⟨j0, j0, j0, j0, g, g6, g7, g8⟩ k
 refine fn_of Tryz.func110 rfl fun ww => ?_
 refine st_know (p := p.n = false) (fun w hw => by rw [z_neg (hw (p, x) (by simp))]; simp; omega) fun hn => ?_
 clear hy y0 g hx k
 refine qF ent85 (zulen5) ?_
 refine st_g ent130 (fa (p)) (subC 0 rfl sub0) (by kernel_rfl) (fun zq1 => ?_)
 refine st_round (by kernel_rfl) ?_
 refine qF ent85 (zulen5) ?_
 refine qZ ent11 (fzint (3600000000000) (by assumption)) fun zq3 => ?_
 refine st_g ent75 (d0 (zq1) (zq3)) (subC 1 rfl (subC 0 rfl sub0)) (by kernel_rfl) (fun zq4 => ?_)
 refine qV 34 (show (p.n) = false by assumption) ?_
 refine st_fn ent36 (f0 (zq4.fst)) (subC 0 rfl sub0) (by kernel_rfl) ?_
 refine qI 46 (5 - 1) ?_
 refine qI 24 (5 + 1) ?_
 refine st_round (by kernel_rfl) ?_
 refine qF ent85 (zulen6) ?_
 refine qZ ent11 (fzint (60000000000) (by assumption)) fun zq7 => ?_
 refine st_g ent75 (d1 (zq4.snd) (zq7)) (subC 2 rfl (subC 0 rfl sub0)) (by kernel_rfl) (fun zq8 => ?_)
 refine qV 34 (show (p.n) = false by assumption) ?_
 refine st_fn ent36 (f1 (zq8.fst)) (subC 0 rfl sub0) (by kernel_rfl) ?_
 refine qI 46 (5 + 1 - 1) ?_
 refine qI 24 (5 + 1 + 1) ?_
 refine st_round (by kernel_rfl) ?_
 refine qF ent85 (zulen7) ?_
 refine qZ ent11 (fzint (1000000000) (by assumption)) fun zq11 => ?_
 refine st_g ent75 (d2 (zq8.snd) (zq11)) (subC 2 rfl (subC 0 rfl sub0)) (by kernel_rfl) (fun zq12 => ?_)
 refine qV 34 (show (p.n) = false by assumption) ?_
 refine st_fn ent36 (f2 (zq12.fst)) (subC 0 rfl sub0) (by kernel_rfl) ?_
 refine qI 46 (5 + 1 + 1 - 1) ?_
 refine qI 24 (5 + 1 + 1 + 1) ?_
 refine st_round (by kernel_rfl) ?_
 refine qF ent85 (zulen8) ?_
 refine qZ ent11 (fzint (1) (by assumption)) fun zq15 => ?_
 refine st_g ent75 (d3 (zq12.snd) (zq15)) (subC 2 rfl (subC 0 rfl sub0)) (by kernel_rfl) (fun zq16 => ?_)
 refine qV 34 (show (p.n) = false by assumption) ?_
 refine st_fn ent36 (f3 (zq16.fst)) (subC 0 rfl sub0) (by kernel_rfl) ?_
 refine qI 46 (5 + 1 + 1 + 1 - 1) ?_
 refine qI 24 (5 + 1 + 1 + 1 + 1) ?_
 refine st_round (by kernel_rfl) ?_
 refine qF ent156 (zumade (0) (0) (0) (0) (x.tdiv 3600000000000) ((x.tmod 3600000000000).tdiv 60000000000) ((x.tmod 60000000000).tdiv 1000000000) (x.tmod 1000000000)) ?_
 refine qF ent89 (r) ?_
 exact qR Tryz.func110
theorem zulay5n_y (p : ZQ) (x : Int) (hx : W128 x) (h0 : x < 0) (g : I64 (x.tdiv 3600000000000)) (k : uOk 0 0 0 0 (x.tdiv 3600000000000) ((x.tmod 3600000000000).tdiv 60000000000) ((x.tmod 60000000000).tdiv 1000000000) (x.tmod 1000000000)) : Fn 110 [(p, x)] [zv p, .int .i64 5] (.tuple #[duv 0 0 0 0 (x.tdiv 3600000000000) ((x.tmod 3600000000000).tdiv 60000000000) ((x.tmod 60000000000).tdiv 1000000000) (x.tmod 1000000000), .int .i64 0]) := by
 have hy : Bits 900 (-x) := (hx.bits.neg).mono (by decide)
 have y0 : 0 ≤ (-x) := by omega
 have bL4 : Bits 900 86400000000000 := Bits.mono (show W128 86400000000000 by unfold W128; omega).bits (by decide)
 have bL5 : Bits 900 3600000000000 := Bits.mono (show W128 3600000000000 by unfold W128; omega).bits (by decide)
 have bL6 : Bits 900 60000000000 := Bits.mono (show W128 60000000000 by unfold W128; omega).bits (by decide)
 have bL7 : Bits 900 1000000000 := Bits.mono (show W128 1000000000 by unfold W128; omega).bits (by decide)
 have bL8 : Bits 900 1 := Bits.mono (show W128 1 by unfold W128; omega).bits (by decide)
 have j1 : I64 86400000000000 := by unfold I64; omega
 have j2 : I64 3600000000000 := by unfold I64; omega
 have j3 : I64 60000000000 := by unfold I64; omega
 have j4 : I64 1000000000 := by unfold I64; omega
 have j5 : I64 1 := by unfold I64; omega
 have j0 : I64 0 := by unfold I64; omega
 have fa : ∀ p : ZQ, FnZ 130 [(p, x)] [zv p] zv (-x) := fun p => by
  have t := fzabs p x (hx.bits.fit (by decide))
  rwa [show ((x.natAbs : Nat) : Int) = -x by omega] at t
 have d0 : ∀ p q : ZQ, FnZZ 75 [(p, (-x)), (q, 3600000000000)] [zv p, zv q] (fun q => .tuple #[zv q.1, zv q.2]) ((-x).tdiv 3600000000000) ((-x).tmod 3600000000000) := fun p q => zdt p q (-x) 3600000000000 y0 hy (by omega) bL5
 have d1 : ∀ p q : ZQ, FnZZ 75 [(p, (-x).tmod 3600000000000), (q, 60000000000)] [zv p, zv q] (fun q => .tuple #[zv q.1, zv q.2]) (((-x).tmod 3600000000000).tdiv 60000000000) ((-x).tmod 60000000000) := fun p q => zdc p q (-x) 3600000000000 60000000000 y0 (by omega) bL5 (by omega) bL6 (by decide)
 have d2 : ∀ p q : ZQ, FnZZ 75 [(p, (-x).tmod 60000000000), (q, 1000000000)] [zv p, zv q] (fun q => .tuple #[zv q.1, zv q.2]) (((-x).tmod 60000000000).tdiv 1000000000) ((-x).tmod 1000000000) := fun p q => zdc p q (-x) 60000000000 1000000000 y0 (by omega) bL6 (by omega) bL7 (by decide)
 have d3 : ∀ p q : ZQ, FnZZ 75 [(p, (-x).tmod 1000000000), (q, 1)] [zv p, zv q] (fun q => .tuple #[zv q.1, zv q.2]) (((-x).tmod 1000000000).tdiv 1) ((-x).tmod 1) := fun p q => zdc p q (-x) 1000000000 1 y0 (by omega) bL7 (by omega) bL8 (by decide)
 have g6 : I64 ((x.tmod 3600000000000).tdiv 60000000000) := by have := td2 x 3600000000000 60000000000 60 (by decide) (by omega) (by omega); unfold I64; omega
 have g7 : I64 ((x.tmod 60000000000).tdiv 1000000000) := by have := td2 x 60000000000 1000000000 60 (by decide) (by omega) (by omega); unfold I64; omega
 have g8 : I64 (x.tmod 1000000000) := by
  obtain ⟨e1, e2, e3⟩ := td x 1000000000 (by omega)
  by_cases z : 0 ≤ x
  ·have := e2 z; unfold I64; omega
  ·have := e3 (by omega); unfold I64; omega
 have n0 : ∀ p : ZQ, FnZ 88 [(p, (-x).tdiv 3600000000000)] [zv p] zv (x.tdiv 3600000000000) := fun p => by
  have t := zng p ((-x).tdiv 3600000000000) (tdvb (-x) 3600000000000 y0 hy (by omega))
  rwa [show -((-x).tdiv 3600000000000) = (x.tdiv 3600000000000) by rw [Int.neg_tdiv, Int.neg_neg]] at t
 have f0 : ∀ p : ZQ, Fn 36 [(p, (x.tdiv 3600000000000))] [zv p] (.tuple #[.int .i64 (x.tdiv 3600000000000), .bool true]) := fun p => by
  have t := fits_f p (x.tdiv 3600000000000) (g.w.bits.mono (by decide)) g
  exact t
 have n1 : ∀ p : ZQ, FnZ 88 [(p, ((-x).tmod 3600000000000).tdiv 60000000000)] [zv p] zv ((x.tmod 3600000000000).tdiv 60000000000) := fun p => by
  have t := zng p (((-x).tmod 3600000000000).tdiv 60000000000) (tdvb _ 60000000000 (tmod_nb (-x) 3600000000000 y0 (by omega) bL5).1 (tmod_nb (-x) 3600000000000 y0 (by omega) bL5).2 (by omega))
  rwa [show -(((-x).tmod 3600000000000).tdiv 60000000000) = ((x.tmod 3600000000000).tdiv 60000000000) by rw [Int.neg_tmod, Int.neg_tdiv, Int.neg_neg]] at t
 have f1 : ∀ p : ZQ, Fn 36 [(p, ((x.tmod 3600000000000).tdiv 60000000000))] [zv p] (.tuple #[.int .i64 ((x.tmod 3600000000000).tdiv 60000000000), .bool true]) := fun p => by
  have t := fits_f p ((x.tmod 3600000000000).tdiv 60000000000) (g6.w.bits.mono (by decide)) g6
  exact t
 have n2 : ∀ p : ZQ, FnZ 88 [(p, ((-x).tmod 60000000000).tdiv 1000000000)] [zv p] zv ((x.tmod 60000000000).tdiv 1000000000) := fun p => by
  have t := zng p (((-x).tmod 60000000000).tdiv 1000000000) (tdvb _ 1000000000 (tmod_nb (-x) 60000000000 y0 (by omega) bL6).1 (tmod_nb (-x) 60000000000 y0 (by omega) bL6).2 (by omega))
  rwa [show -(((-x).tmod 60000000000).tdiv 1000000000) = ((x.tmod 60000000000).tdiv 1000000000) by rw [Int.neg_tmod, Int.neg_tdiv, Int.neg_neg]] at t
 have f2 : ∀ p : ZQ, Fn 36 [(p, ((x.tmod 60000000000).tdiv 1000000000))] [zv p] (.tuple #[.int .i64 ((x.tmod 60000000000).tdiv 1000000000), .bool true]) := fun p => by
  have t := fits_f p ((x.tmod 60000000000).tdiv 1000000000) (g7.w.bits.mono (by decide)) g7
  exact t
 have n3 : ∀ p : ZQ, FnZ 88 [(p, ((-x).tmod 1000000000).tdiv 1)] [zv p] zv (x.tmod 1000000000) := fun p => by
  have t := zng p (((-x).tmod 1000000000).tdiv 1) (tdvb _ 1 (tmod_nb (-x) 1000000000 y0 (by omega) bL7).1 (tmod_nb (-x) 1000000000 y0 (by omega) bL7).2 (by omega))
  rwa [show -(((-x).tmod 1000000000).tdiv 1) = (x.tmod 1000000000) by rw [Int.neg_tmod, Int.neg_tdiv, Int.neg_neg, tdiv_1]] at t
 have f3 : ∀ p : ZQ, Fn 36 [(p, (x.tmod 1000000000))] [zv p] (.tuple #[.int .i64 (x.tmod 1000000000), .bool true]) := fun p => by
  have t := fits_f p (x.tmod 1000000000) (g8.w.bits.mono (by decide)) g8
  exact t
 have r := zuright_y 0 0 0 0 (x.tdiv 3600000000000) ((x.tmod 3600000000000).tdiv 60000000000) ((x.tmod 60000000000).tdiv 1000000000) (x.tmod 1000000000) ⟨j0, j0, j0, j0, g, g6, g7, g8⟩ k
 refine fn_of Tryz.func110 rfl fun ww => ?_
 refine st_know (p := p.n = true) (fun w hw => by rw [z_neg (hw (p, x) (by simp))]; simp; omega) fun hn => ?_
 clear hy y0 g hx k
 refine qF ent85 (zulen5) ?_
 refine st_g ent130 (fa (p)) (subC 0 rfl sub0) (by kernel_rfl) (fun zq1 => ?_)
 refine st_round (by kernel_rfl) ?_
 refine qF ent85 (zulen5) ?_
 refine qZ ent11 (fzint (3600000000000) (by assumption)) fun zq3 => ?_
 refine st_g ent75 (d0 (zq1) (zq3)) (subC 1 rfl (subC 0 rfl sub0)) (by kernel_rfl) (fun zq4 => ?_)
 refine qV 34 (show (p.n) = true by assumption) ?_
 refine st_g ent88 (n0 (zq4.fst)) (subC 0 rfl sub0) (by kernel_rfl) (fun zq5 => ?_)
 refine st_fn ent36 (f0 (zq5)) (subC 0 rfl sub0) (by kernel_rfl) ?_
 refine qI 46 (5 - 1) ?_
 refine qI 24 (5 + 1) ?_
 refine st_round (by kernel_rfl) ?_
 refine qF ent85 (zulen6) ?_
 refine qZ ent11 (fzint (60000000000) (by assumption)) fun zq8 => ?_
 refine st_g ent75 (d1 (zq4.snd) (zq8)) (subC 3 rfl (subC 0 rfl sub0)) (by kernel_rfl) (fun zq9 => ?_)
 refine qV 34 (show (p.n) = true by assumption) ?_
 refine st_g ent88 (n1 (zq9.fst)) (subC 0 rfl sub0) (by kernel_rfl) (fun zq10 => ?_)
 refine st_fn ent36 (f1 (zq10)) (subC 0 rfl sub0) (by kernel_rfl) ?_
 refine qI 46 (5 + 1 - 1) ?_
 refine qI 24 (5 + 1 + 1) ?_
 refine st_round (by kernel_rfl) ?_
 refine qF ent85 (zulen7) ?_
 refine qZ ent11 (fzint (1000000000) (by assumption)) fun zq13 => ?_
 refine st_g ent75 (d2 (zq9.snd) (zq13)) (subC 3 rfl (subC 0 rfl sub0)) (by kernel_rfl) (fun zq14 => ?_)
 refine qV 34 (show (p.n) = true by assumption) ?_
 refine st_g ent88 (n2 (zq14.fst)) (subC 0 rfl sub0) (by kernel_rfl) (fun zq15 => ?_)
 refine st_fn ent36 (f2 (zq15)) (subC 0 rfl sub0) (by kernel_rfl) ?_
 refine qI 46 (5 + 1 + 1 - 1) ?_
 refine qI 24 (5 + 1 + 1 + 1) ?_
 refine st_round (by kernel_rfl) ?_
 refine qF ent85 (zulen8) ?_
 refine qZ ent11 (fzint (1) (by assumption)) fun zq18 => ?_
 refine st_g ent75 (d3 (zq14.snd) (zq18)) (subC 3 rfl (subC 0 rfl sub0)) (by kernel_rfl) (fun zq19 => ?_)
 refine qV 34 (show (p.n) = true by assumption) ?_
 refine st_g ent88 (n3 (zq19.fst)) (subC 0 rfl sub0) (by kernel_rfl) (fun zq20 => ?_)
 refine st_fn ent36 (f3 (zq20)) (subC 0 rfl sub0) (by kernel_rfl) ?_
 refine qI 46 (5 + 1 + 1 + 1 - 1) ?_
 refine qI 24 (5 + 1 + 1 + 1 + 1) ?_
 refine st_round (by kernel_rfl) ?_
 refine qF ent156 (zumade (0) (0) (0) (0) (x.tdiv 3600000000000) ((x.tmod 3600000000000).tdiv 60000000000) ((x.tmod 60000000000).tdiv 1000000000) (x.tmod 1000000000)) ?_
 refine qF ent89 (r) ?_
 exact qR Tryz.func110
theorem zulay6p_y (p : ZQ) (x : Int) (hx : W128 x) (h0 : 0 ≤ x) (g : I64 (x.tdiv 60000000000)) (k : uOk 0 0 0 0 0 (x.tdiv 60000000000) ((x.tmod 60000000000).tdiv 1000000000) (x.tmod 1000000000)) : Fn 110 [(p, x)] [zv p, .int .i64 6] (.tuple #[duv 0 0 0 0 0 (x.tdiv 60000000000) ((x.tmod 60000000000).tdiv 1000000000) (x.tmod 1000000000), .int .i64 0]) := by
 have hy : Bits 900 x := hx.bits.mono (by decide)
 have y0 : 0 ≤ x := by omega
 have bL4 : Bits 900 86400000000000 := Bits.mono (show W128 86400000000000 by unfold W128; omega).bits (by decide)
 have bL5 : Bits 900 3600000000000 := Bits.mono (show W128 3600000000000 by unfold W128; omega).bits (by decide)
 have bL6 : Bits 900 60000000000 := Bits.mono (show W128 60000000000 by unfold W128; omega).bits (by decide)
 have bL7 : Bits 900 1000000000 := Bits.mono (show W128 1000000000 by unfold W128; omega).bits (by decide)
 have bL8 : Bits 900 1 := Bits.mono (show W128 1 by unfold W128; omega).bits (by decide)
 have j1 : I64 86400000000000 := by unfold I64; omega
 have j2 : I64 3600000000000 := by unfold I64; omega
 have j3 : I64 60000000000 := by unfold I64; omega
 have j4 : I64 1000000000 := by unfold I64; omega
 have j5 : I64 1 := by unfold I64; omega
 have j0 : I64 0 := by unfold I64; omega
 have fa : ∀ p : ZQ, FnZ 130 [(p, x)] [zv p] zv x := fun p => by
  have t := fzabs p x (hx.bits.fit (by decide))
  rwa [show ((x.natAbs : Nat) : Int) = x by omega] at t
 have d0 : ∀ p q : ZQ, FnZZ 75 [(p, x), (q, 60000000000)] [zv p, zv q] (fun q => .tuple #[zv q.1, zv q.2]) (x.tdiv 60000000000) (x.tmod 60000000000) := fun p q => zdt p q x 60000000000 y0 hy (by omega) bL6
 have d1 : ∀ p q : ZQ, FnZZ 75 [(p, x.tmod 60000000000), (q, 1000000000)] [zv p, zv q] (fun q => .tuple #[zv q.1, zv q.2]) ((x.tmod 60000000000).tdiv 1000000000) (x.tmod 1000000000) := fun p q => zdc p q x 60000000000 1000000000 y0 (by omega) bL6 (by omega) bL7 (by decide)
 have d2 : ∀ p q : ZQ, FnZZ 75 [(p, x.tmod 1000000000), (q, 1)] [zv p, zv q] (fun q => .tuple #[zv q.1, zv q.2]) ((x.tmod 1000000000).tdiv 1) (x.tmod 1) := fun p q => zdc p q x 1000000000 1 y0 (by omega) bL7 (by omega) bL8 (by decide)
 have g7 : I64 ((x.tmod 60000000000).tdiv 1000000000) := by have := td2 x 60000000000 1000000000 60 (by decide) (by omega) (by omega); unfold I64; omega
 have g8 : I64 (x.tmod 1000000000) := by
  obtain ⟨e1, e2, e3⟩ := td x 1000000000 (by omega)
  by_cases z : 0 ≤ x
  ·have := e2 z; unfold I64; omega
  ·have := e3 (by omega); unfold I64; omega
 have f0 : ∀ p : ZQ, Fn 36 [(p, x.tdiv 60000000000)] [zv p] (.tuple #[.int .i64 (x.tdiv 60000000000), .bool true]) := fun p => by
  have t := fits_f p (x.tdiv 60000000000) (g.w.bits.mono (by decide)) g
  exact t
 have f1 : ∀ p : ZQ, Fn 36 [(p, (x.tmod 60000000000).tdiv 1000000000)] [zv p] (.tuple #[.int .i64 ((x.tmod 60000000000).tdiv 1000000000), .bool true]) := fun p => by
  have t := fits_f p ((x.tmod 60000000000).tdiv 1000000000) (g7.w.bits.mono (by decide)) g7
  exact t
 have f2 : ∀ p : ZQ, Fn 36 [(p, (x.tmod 1000000000).tdiv 1)] [zv p] (.tuple #[.int .i64 (x.tmod 1000000000), .bool true]) := fun p => by
  have t := fits_f p (x.tmod 1000000000) (g8.w.bits.mono (by decide)) g8
  simpa only [tdiv_1] using t
 have r := zuright_y 0 0 0 0 0 (x.tdiv 60000000000) ((x.tmod 60000000000).tdiv 1000000000) (x.tmod 1000000000) ⟨j0, j0, j0, j0, j0, g, g7, g8⟩ k
 refine fn_of Tryz.func110 rfl fun ww => ?_
 refine st_know (p := p.n = false) (fun w hw => by rw [z_neg (hw (p, x) (by simp))]; simp; omega) fun hn => ?_
 clear hy y0 g hx k
 refine qF ent85 (zulen6) ?_
 refine st_g ent130 (fa (p)) (subC 0 rfl sub0) (by kernel_rfl) (fun zq1 => ?_)
 refine st_round (by kernel_rfl) ?_
 refine qF ent85 (zulen6) ?_
 refine qZ ent11 (fzint (60000000000) (by assumption)) fun zq3 => ?_
 refine st_g ent75 (d0 (zq1) (zq3)) (subC 1 rfl (subC 0 rfl sub0)) (by kernel_rfl) (fun zq4 => ?_)
 refine qV 34 (show (p.n) = false by assumption) ?_
 refine st_fn ent36 (f0 (zq4.fst)) (subC 0 rfl sub0) (by kernel_rfl) ?_
 refine qI 46 (6 - 1) ?_
 refine qI 24 (6 + 1) ?_
 refine st_round (by kernel_rfl) ?_
 refine qF ent85 (zulen7) ?_
 refine qZ ent11 (fzint (1000000000) (by assumption)) fun zq7 => ?_
 refine st_g ent75 (d1 (zq4.snd) (zq7)) (subC 2 rfl (subC 0 rfl sub0)) (by kernel_rfl) (fun zq8 => ?_)
 refine qV 34 (show (p.n) = false by assumption) ?_
 refine st_fn ent36 (f1 (zq8.fst)) (subC 0 rfl sub0) (by kernel_rfl) ?_
 refine qI 46 (6 + 1 - 1) ?_
 refine qI 24 (6 + 1 + 1) ?_
 refine st_round (by kernel_rfl) ?_
 refine qF ent85 (zulen8) ?_
 refine qZ ent11 (fzint (1) (by assumption)) fun zq11 => ?_
 refine st_g ent75 (d2 (zq8.snd) (zq11)) (subC 2 rfl (subC 0 rfl sub0)) (by kernel_rfl) (fun zq12 => ?_)
 refine qV 34 (show (p.n) = false by assumption) ?_
 refine st_fn ent36 (f2 (zq12.fst)) (subC 0 rfl sub0) (by kernel_rfl) ?_
 refine qI 46 (6 + 1 + 1 - 1) ?_
 refine qI 24 (6 + 1 + 1 + 1) ?_
 refine st_round (by kernel_rfl) ?_
 refine qF ent156 (zumade (0) (0) (0) (0) (0) (x.tdiv 60000000000) ((x.tmod 60000000000).tdiv 1000000000) (x.tmod 1000000000)) ?_
 refine qF ent89 (r) ?_
 exact qR Tryz.func110
theorem zulay6n_y (p : ZQ) (x : Int) (hx : W128 x) (h0 : x < 0) (g : I64 (x.tdiv 60000000000)) (k : uOk 0 0 0 0 0 (x.tdiv 60000000000) ((x.tmod 60000000000).tdiv 1000000000) (x.tmod 1000000000)) : Fn 110 [(p, x)] [zv p, .int .i64 6] (.tuple #[duv 0 0 0 0 0 (x.tdiv 60000000000) ((x.tmod 60000000000).tdiv 1000000000) (x.tmod 1000000000), .int .i64 0]) := by
 have hy : Bits 900 (-x) := (hx.bits.neg).mono (by decide)
 have y0 : 0 ≤ (-x) := by omega
 have bL4 : Bits 900 86400000000000 := Bits.mono (show W128 86400000000000 by unfold W128; omega).bits (by decide)
 have bL5 : Bits 900 3600000000000 := Bits.mono (show W128 3600000000000 by unfold W128; omega).bits (by decide)
 have bL6 : Bits 900 60000000000 := Bits.mono (show W128 60000000000 by unfold W128; omega).bits (by decide)
 have bL7 : Bits 900 1000000000 := Bits.mono (show W128 1000000000 by unfold W128; omega).bits (by decide)
 have bL8 : Bits 900 1 := Bits.mono (show W128 1 by unfold W128; omega).bits (by decide)
 have j1 : I64 86400000000000 := by unfold I64; omega
 have j2 : I64 3600000000000 := by unfold I64; omega
 have j3 : I64 60000000000 := by unfold I64; omega
 have j4 : I64 1000000000 := by unfold I64; omega
 have j5 : I64 1 := by unfold I64; omega
 have j0 : I64 0 := by unfold I64; omega
 have fa : ∀ p : ZQ, FnZ 130 [(p, x)] [zv p] zv (-x) := fun p => by
  have t := fzabs p x (hx.bits.fit (by decide))
  rwa [show ((x.natAbs : Nat) : Int) = -x by omega] at t
 have d0 : ∀ p q : ZQ, FnZZ 75 [(p, (-x)), (q, 60000000000)] [zv p, zv q] (fun q => .tuple #[zv q.1, zv q.2]) ((-x).tdiv 60000000000) ((-x).tmod 60000000000) := fun p q => zdt p q (-x) 60000000000 y0 hy (by omega) bL6
 have d1 : ∀ p q : ZQ, FnZZ 75 [(p, (-x).tmod 60000000000), (q, 1000000000)] [zv p, zv q] (fun q => .tuple #[zv q.1, zv q.2]) (((-x).tmod 60000000000).tdiv 1000000000) ((-x).tmod 1000000000) := fun p q => zdc p q (-x) 60000000000 1000000000 y0 (by omega) bL6 (by omega) bL7 (by decide)
 have d2 : ∀ p q : ZQ, FnZZ 75 [(p, (-x).tmod 1000000000), (q, 1)] [zv p, zv q] (fun q => .tuple #[zv q.1, zv q.2]) (((-x).tmod 1000000000).tdiv 1) ((-x).tmod 1) := fun p q => zdc p q (-x) 1000000000 1 y0 (by omega) bL7 (by omega) bL8 (by decide)
 have g7 : I64 ((x.tmod 60000000000).tdiv 1000000000) := by have := td2 x 60000000000 1000000000 60 (by decide) (by omega) (by omega); unfold I64; omega
 have g8 : I64 (x.tmod 1000000000) := by
  obtain ⟨e1, e2, e3⟩ := td x 1000000000 (by omega)
  by_cases z : 0 ≤ x
  ·have := e2 z; unfold I64; omega
  ·have := e3 (by omega); unfold I64; omega
 have n0 : ∀ p : ZQ, FnZ 88 [(p, (-x).tdiv 60000000000)] [zv p] zv (x.tdiv 60000000000) := fun p => by
  have t := zng p ((-x).tdiv 60000000000) (tdvb (-x) 60000000000 y0 hy (by omega))
  rwa [show -((-x).tdiv 60000000000) = (x.tdiv 60000000000) by rw [Int.neg_tdiv, Int.neg_neg]] at t
 have f0 : ∀ p : ZQ, Fn 36 [(p, (x.tdiv 60000000000))] [zv p] (.tuple #[.int .i64 (x.tdiv 60000000000), .bool true]) := fun p => by
  have t := fits_f p (x.tdiv 60000000000) (g.w.bits.mono (by decide)) g
  exact t
 have n1 : ∀ p : ZQ, FnZ 88 [(p, ((-x).tmod 60000000000).tdiv 1000000000)] [zv p] zv ((x.tmod 60000000000).tdiv 1000000000) := fun p => by
  have t := zng p (((-x).tmod 60000000000).tdiv 1000000000) (tdvb _ 1000000000 (tmod_nb (-x) 60000000000 y0 (by omega) bL6).1 (tmod_nb (-x) 60000000000 y0 (by omega) bL6).2 (by omega))
  rwa [show -(((-x).tmod 60000000000).tdiv 1000000000) = ((x.tmod 60000000000).tdiv 1000000000) by rw [Int.neg_tmod, Int.neg_tdiv, Int.neg_neg]] at t
 have f1 : ∀ p : ZQ, Fn 36 [(p, ((x.tmod 60000000000).tdiv 1000000000))] [zv p] (.tuple #[.int .i64 ((x.tmod 60000000000).tdiv 1000000000), .bool true]) := fun p => by
  have t := fits_f p ((x.tmod 60000000000).tdiv 1000000000) (g7.w.bits.mono (by decide)) g7
  exact t
 have n2 : ∀ p : ZQ, FnZ 88 [(p, ((-x).tmod 1000000000).tdiv 1)] [zv p] zv (x.tmod 1000000000) := fun p => by
  have t := zng p (((-x).tmod 1000000000).tdiv 1) (tdvb _ 1 (tmod_nb (-x) 1000000000 y0 (by omega) bL7).1 (tmod_nb (-x) 1000000000 y0 (by omega) bL7).2 (by omega))
  rwa [show -(((-x).tmod 1000000000).tdiv 1) = (x.tmod 1000000000) by rw [Int.neg_tmod, Int.neg_tdiv, Int.neg_neg, tdiv_1]] at t
 have f2 : ∀ p : ZQ, Fn 36 [(p, (x.tmod 1000000000))] [zv p] (.tuple #[.int .i64 (x.tmod 1000000000), .bool true]) := fun p => by
  have t := fits_f p (x.tmod 1000000000) (g8.w.bits.mono (by decide)) g8
  exact t
 have r := zuright_y 0 0 0 0 0 (x.tdiv 60000000000) ((x.tmod 60000000000).tdiv 1000000000) (x.tmod 1000000000) ⟨j0, j0, j0, j0, j0, g, g7, g8⟩ k
 refine fn_of Tryz.func110 rfl fun ww => ?_
 refine st_know (p := p.n = true) (fun w hw => by rw [z_neg (hw (p, x) (by simp))]; simp; omega) fun hn => ?_
 clear hy y0 g hx k
 refine qF ent85 (zulen6) ?_
 refine st_g ent130 (fa (p)) (subC 0 rfl sub0) (by kernel_rfl) (fun zq1 => ?_)
 refine st_round (by kernel_rfl) ?_
 refine qF ent85 (zulen6) ?_
 refine qZ ent11 (fzint (60000000000) (by assumption)) fun zq3 => ?_
 refine st_g ent75 (d0 (zq1) (zq3)) (subC 1 rfl (subC 0 rfl sub0)) (by kernel_rfl) (fun zq4 => ?_)
 refine qV 34 (show (p.n) = true by assumption) ?_
 refine st_g ent88 (n0 (zq4.fst)) (subC 0 rfl sub0) (by kernel_rfl) (fun zq5 => ?_)
 refine st_fn ent36 (f0 (zq5)) (subC 0 rfl sub0) (by kernel_rfl) ?_
 refine qI 46 (6 - 1) ?_
 refine qI 24 (6 + 1) ?_
 refine st_round (by kernel_rfl) ?_
 refine qF ent85 (zulen7) ?_
 refine qZ ent11 (fzint (1000000000) (by assumption)) fun zq8 => ?_
 refine st_g ent75 (d1 (zq4.snd) (zq8)) (subC 3 rfl (subC 0 rfl sub0)) (by kernel_rfl) (fun zq9 => ?_)
 refine qV 34 (show (p.n) = true by assumption) ?_
 refine st_g ent88 (n1 (zq9.fst)) (subC 0 rfl sub0) (by kernel_rfl) (fun zq10 => ?_)
 refine st_fn ent36 (f1 (zq10)) (subC 0 rfl sub0) (by kernel_rfl) ?_
 refine qI 46 (6 + 1 - 1) ?_
 refine qI 24 (6 + 1 + 1) ?_
 refine st_round (by kernel_rfl) ?_
 refine qF ent85 (zulen8) ?_
 refine qZ ent11 (fzint (1) (by assumption)) fun zq13 => ?_
 refine st_g ent75 (d2 (zq9.snd) (zq13)) (subC 3 rfl (subC 0 rfl sub0)) (by kernel_rfl) (fun zq14 => ?_)
 refine qV 34 (show (p.n) = true by assumption) ?_
 refine st_g ent88 (n2 (zq14.fst)) (subC 0 rfl sub0) (by kernel_rfl) (fun zq15 => ?_)
 refine st_fn ent36 (f2 (zq15)) (subC 0 rfl sub0) (by kernel_rfl) ?_
 refine qI 46 (6 + 1 + 1 - 1) ?_
 refine qI 24 (6 + 1 + 1 + 1) ?_
 refine st_round (by kernel_rfl) ?_
 refine qF ent156 (zumade (0) (0) (0) (0) (0) (x.tdiv 60000000000) ((x.tmod 60000000000).tdiv 1000000000) (x.tmod 1000000000)) ?_
 refine qF ent89 (r) ?_
 exact qR Tryz.func110
theorem zulay7p_y (p : ZQ) (x : Int) (hx : W128 x) (h0 : 0 ≤ x) (g : I64 (x.tdiv 1000000000)) (k : uOk 0 0 0 0 0 0 (x.tdiv 1000000000) (x.tmod 1000000000)) : Fn 110 [(p, x)] [zv p, .int .i64 7] (.tuple #[duv 0 0 0 0 0 0 (x.tdiv 1000000000) (x.tmod 1000000000), .int .i64 0]) := by
 have hy : Bits 900 x := hx.bits.mono (by decide)
 have y0 : 0 ≤ x := by omega
 have bL4 : Bits 900 86400000000000 := Bits.mono (show W128 86400000000000 by unfold W128; omega).bits (by decide)
 have bL5 : Bits 900 3600000000000 := Bits.mono (show W128 3600000000000 by unfold W128; omega).bits (by decide)
 have bL6 : Bits 900 60000000000 := Bits.mono (show W128 60000000000 by unfold W128; omega).bits (by decide)
 have bL7 : Bits 900 1000000000 := Bits.mono (show W128 1000000000 by unfold W128; omega).bits (by decide)
 have bL8 : Bits 900 1 := Bits.mono (show W128 1 by unfold W128; omega).bits (by decide)
 have j1 : I64 86400000000000 := by unfold I64; omega
 have j2 : I64 3600000000000 := by unfold I64; omega
 have j3 : I64 60000000000 := by unfold I64; omega
 have j4 : I64 1000000000 := by unfold I64; omega
 have j5 : I64 1 := by unfold I64; omega
 have j0 : I64 0 := by unfold I64; omega
 have fa : ∀ p : ZQ, FnZ 130 [(p, x)] [zv p] zv x := fun p => by
  have t := fzabs p x (hx.bits.fit (by decide))
  rwa [show ((x.natAbs : Nat) : Int) = x by omega] at t
 have d0 : ∀ p q : ZQ, FnZZ 75 [(p, x), (q, 1000000000)] [zv p, zv q] (fun q => .tuple #[zv q.1, zv q.2]) (x.tdiv 1000000000) (x.tmod 1000000000) := fun p q => zdt p q x 1000000000 y0 hy (by omega) bL7
 have d1 : ∀ p q : ZQ, FnZZ 75 [(p, x.tmod 1000000000), (q, 1)] [zv p, zv q] (fun q => .tuple #[zv q.1, zv q.2]) ((x.tmod 1000000000).tdiv 1) (x.tmod 1) := fun p q => zdc p q x 1000000000 1 y0 (by omega) bL7 (by omega) bL8 (by decide)
 have g8 : I64 (x.tmod 1000000000) := by
  obtain ⟨e1, e2, e3⟩ := td x 1000000000 (by omega)
  by_cases z : 0 ≤ x
  ·have := e2 z; unfold I64; omega
  ·have := e3 (by omega); unfold I64; omega
 have f0 : ∀ p : ZQ, Fn 36 [(p, x.tdiv 1000000000)] [zv p] (.tuple #[.int .i64 (x.tdiv 1000000000), .bool true]) := fun p => by
  have t := fits_f p (x.tdiv 1000000000) (g.w.bits.mono (by decide)) g
  exact t
 have f1 : ∀ p : ZQ, Fn 36 [(p, (x.tmod 1000000000).tdiv 1)] [zv p] (.tuple #[.int .i64 (x.tmod 1000000000), .bool true]) := fun p => by
  have t := fits_f p (x.tmod 1000000000) (g8.w.bits.mono (by decide)) g8
  simpa only [tdiv_1] using t
 have r := zuright_y 0 0 0 0 0 0 (x.tdiv 1000000000) (x.tmod 1000000000) ⟨j0, j0, j0, j0, j0, j0, g, g8⟩ k
 refine fn_of Tryz.func110 rfl fun ww => ?_
 refine st_know (p := p.n = false) (fun w hw => by rw [z_neg (hw (p, x) (by simp))]; simp; omega) fun hn => ?_
 clear hy y0 g hx k
 refine qF ent85 (zulen7) ?_
 refine st_g ent130 (fa (p)) (subC 0 rfl sub0) (by kernel_rfl) (fun zq1 => ?_)
 refine st_round (by kernel_rfl) ?_
 refine qF ent85 (zulen7) ?_
 refine qZ ent11 (fzint (1000000000) (by assumption)) fun zq3 => ?_
 refine st_g ent75 (d0 (zq1) (zq3)) (subC 1 rfl (subC 0 rfl sub0)) (by kernel_rfl) (fun zq4 => ?_)
 refine qV 34 (show (p.n) = false by assumption) ?_
 refine st_fn ent36 (f0 (zq4.fst)) (subC 0 rfl sub0) (by kernel_rfl) ?_
 refine qI 46 (7 - 1) ?_
 refine qI 24 (7 + 1) ?_
 refine st_round (by kernel_rfl) ?_
 refine qF ent85 (zulen8) ?_
 refine qZ ent11 (fzint (1) (by assumption)) fun zq7 => ?_
 refine st_g ent75 (d1 (zq4.snd) (zq7)) (subC 2 rfl (subC 0 rfl sub0)) (by kernel_rfl) (fun zq8 => ?_)
 refine qV 34 (show (p.n) = false by assumption) ?_
 refine st_fn ent36 (f1 (zq8.fst)) (subC 0 rfl sub0) (by kernel_rfl) ?_
 refine qI 46 (7 + 1 - 1) ?_
 refine qI 24 (7 + 1 + 1) ?_
 refine st_round (by kernel_rfl) ?_
 refine qF ent156 (zumade (0) (0) (0) (0) (0) (0) (x.tdiv 1000000000) (x.tmod 1000000000)) ?_
 refine qF ent89 (r) ?_
 exact qR Tryz.func110
theorem zulay7n_y (p : ZQ) (x : Int) (hx : W128 x) (h0 : x < 0) (g : I64 (x.tdiv 1000000000)) (k : uOk 0 0 0 0 0 0 (x.tdiv 1000000000) (x.tmod 1000000000)) : Fn 110 [(p, x)] [zv p, .int .i64 7] (.tuple #[duv 0 0 0 0 0 0 (x.tdiv 1000000000) (x.tmod 1000000000), .int .i64 0]) := by
 have hy : Bits 900 (-x) := (hx.bits.neg).mono (by decide)
 have y0 : 0 ≤ (-x) := by omega
 have bL4 : Bits 900 86400000000000 := Bits.mono (show W128 86400000000000 by unfold W128; omega).bits (by decide)
 have bL5 : Bits 900 3600000000000 := Bits.mono (show W128 3600000000000 by unfold W128; omega).bits (by decide)
 have bL6 : Bits 900 60000000000 := Bits.mono (show W128 60000000000 by unfold W128; omega).bits (by decide)
 have bL7 : Bits 900 1000000000 := Bits.mono (show W128 1000000000 by unfold W128; omega).bits (by decide)
 have bL8 : Bits 900 1 := Bits.mono (show W128 1 by unfold W128; omega).bits (by decide)
 have j1 : I64 86400000000000 := by unfold I64; omega
 have j2 : I64 3600000000000 := by unfold I64; omega
 have j3 : I64 60000000000 := by unfold I64; omega
 have j4 : I64 1000000000 := by unfold I64; omega
 have j5 : I64 1 := by unfold I64; omega
 have j0 : I64 0 := by unfold I64; omega
 have fa : ∀ p : ZQ, FnZ 130 [(p, x)] [zv p] zv (-x) := fun p => by
  have t := fzabs p x (hx.bits.fit (by decide))
  rwa [show ((x.natAbs : Nat) : Int) = -x by omega] at t
 have d0 : ∀ p q : ZQ, FnZZ 75 [(p, (-x)), (q, 1000000000)] [zv p, zv q] (fun q => .tuple #[zv q.1, zv q.2]) ((-x).tdiv 1000000000) ((-x).tmod 1000000000) := fun p q => zdt p q (-x) 1000000000 y0 hy (by omega) bL7
 have d1 : ∀ p q : ZQ, FnZZ 75 [(p, (-x).tmod 1000000000), (q, 1)] [zv p, zv q] (fun q => .tuple #[zv q.1, zv q.2]) (((-x).tmod 1000000000).tdiv 1) ((-x).tmod 1) := fun p q => zdc p q (-x) 1000000000 1 y0 (by omega) bL7 (by omega) bL8 (by decide)
 have g8 : I64 (x.tmod 1000000000) := by
  obtain ⟨e1, e2, e3⟩ := td x 1000000000 (by omega)
  by_cases z : 0 ≤ x
  ·have := e2 z; unfold I64; omega
  ·have := e3 (by omega); unfold I64; omega
 have n0 : ∀ p : ZQ, FnZ 88 [(p, (-x).tdiv 1000000000)] [zv p] zv (x.tdiv 1000000000) := fun p => by
  have t := zng p ((-x).tdiv 1000000000) (tdvb (-x) 1000000000 y0 hy (by omega))
  rwa [show -((-x).tdiv 1000000000) = (x.tdiv 1000000000) by rw [Int.neg_tdiv, Int.neg_neg]] at t
 have f0 : ∀ p : ZQ, Fn 36 [(p, (x.tdiv 1000000000))] [zv p] (.tuple #[.int .i64 (x.tdiv 1000000000), .bool true]) := fun p => by
  have t := fits_f p (x.tdiv 1000000000) (g.w.bits.mono (by decide)) g
  exact t
 have n1 : ∀ p : ZQ, FnZ 88 [(p, ((-x).tmod 1000000000).tdiv 1)] [zv p] zv (x.tmod 1000000000) := fun p => by
  have t := zng p (((-x).tmod 1000000000).tdiv 1) (tdvb _ 1 (tmod_nb (-x) 1000000000 y0 (by omega) bL7).1 (tmod_nb (-x) 1000000000 y0 (by omega) bL7).2 (by omega))
  rwa [show -(((-x).tmod 1000000000).tdiv 1) = (x.tmod 1000000000) by rw [Int.neg_tmod, Int.neg_tdiv, Int.neg_neg, tdiv_1]] at t
 have f1 : ∀ p : ZQ, Fn 36 [(p, (x.tmod 1000000000))] [zv p] (.tuple #[.int .i64 (x.tmod 1000000000), .bool true]) := fun p => by
  have t := fits_f p (x.tmod 1000000000) (g8.w.bits.mono (by decide)) g8
  exact t
 have r := zuright_y 0 0 0 0 0 0 (x.tdiv 1000000000) (x.tmod 1000000000) ⟨j0, j0, j0, j0, j0, j0, g, g8⟩ k
 refine fn_of Tryz.func110 rfl fun ww => ?_
 refine st_know (p := p.n = true) (fun w hw => by rw [z_neg (hw (p, x) (by simp))]; simp; omega) fun hn => ?_
 clear hy y0 g hx k
 refine qF ent85 (zulen7) ?_
 refine st_g ent130 (fa (p)) (subC 0 rfl sub0) (by kernel_rfl) (fun zq1 => ?_)
 refine st_round (by kernel_rfl) ?_
 refine qF ent85 (zulen7) ?_
 refine qZ ent11 (fzint (1000000000) (by assumption)) fun zq3 => ?_
 refine st_g ent75 (d0 (zq1) (zq3)) (subC 1 rfl (subC 0 rfl sub0)) (by kernel_rfl) (fun zq4 => ?_)
 refine qV 34 (show (p.n) = true by assumption) ?_
 refine st_g ent88 (n0 (zq4.fst)) (subC 0 rfl sub0) (by kernel_rfl) (fun zq5 => ?_)
 refine st_fn ent36 (f0 (zq5)) (subC 0 rfl sub0) (by kernel_rfl) ?_
 refine qI 46 (7 - 1) ?_
 refine qI 24 (7 + 1) ?_
 refine st_round (by kernel_rfl) ?_
 refine qF ent85 (zulen8) ?_
 refine qZ ent11 (fzint (1) (by assumption)) fun zq8 => ?_
 refine st_g ent75 (d1 (zq4.snd) (zq8)) (subC 3 rfl (subC 0 rfl sub0)) (by kernel_rfl) (fun zq9 => ?_)
 refine qV 34 (show (p.n) = true by assumption) ?_
 refine st_g ent88 (n1 (zq9.fst)) (subC 0 rfl sub0) (by kernel_rfl) (fun zq10 => ?_)
 refine st_fn ent36 (f1 (zq10)) (subC 0 rfl sub0) (by kernel_rfl) ?_
 refine qI 46 (7 + 1 - 1) ?_
 refine qI 24 (7 + 1 + 1) ?_
 refine st_round (by kernel_rfl) ?_
 refine qF ent156 (zumade (0) (0) (0) (0) (0) (0) (x.tdiv 1000000000) (x.tmod 1000000000)) ?_
 refine qF ent89 (r) ?_
 exact qR Tryz.func110
theorem zulay8p_y (p : ZQ) (x : Int) (hx : W128 x) (h0 : 0 ≤ x) (g : I64 x) (k : uOk 0 0 0 0 0 0 0 x) : Fn 110 [(p, x)] [zv p, .int .i64 8] (.tuple #[duv 0 0 0 0 0 0 0 x, .int .i64 0]) := by
 have hy : Bits 900 x := hx.bits.mono (by decide)
 have y0 : 0 ≤ x := by omega
 have bL4 : Bits 900 86400000000000 := Bits.mono (show W128 86400000000000 by unfold W128; omega).bits (by decide)
 have bL5 : Bits 900 3600000000000 := Bits.mono (show W128 3600000000000 by unfold W128; omega).bits (by decide)
 have bL6 : Bits 900 60000000000 := Bits.mono (show W128 60000000000 by unfold W128; omega).bits (by decide)
 have bL7 : Bits 900 1000000000 := Bits.mono (show W128 1000000000 by unfold W128; omega).bits (by decide)
 have bL8 : Bits 900 1 := Bits.mono (show W128 1 by unfold W128; omega).bits (by decide)
 have j1 : I64 86400000000000 := by unfold I64; omega
 have j2 : I64 3600000000000 := by unfold I64; omega
 have j3 : I64 60000000000 := by unfold I64; omega
 have j4 : I64 1000000000 := by unfold I64; omega
 have j5 : I64 1 := by unfold I64; omega
 have j0 : I64 0 := by unfold I64; omega
 have fa : ∀ p : ZQ, FnZ 130 [(p, x)] [zv p] zv x := fun p => by
  have t := fzabs p x (hx.bits.fit (by decide))
  rwa [show ((x.natAbs : Nat) : Int) = x by omega] at t
 have d0 : ∀ p q : ZQ, FnZZ 75 [(p, x), (q, 1)] [zv p, zv q] (fun q => .tuple #[zv q.1, zv q.2]) (x.tdiv 1) (x.tmod 1) := fun p q => zdt p q x 1 y0 hy (by omega) bL8
 have f0 : ∀ p : ZQ, Fn 36 [(p, x.tdiv 1)] [zv p] (.tuple #[.int .i64 x, .bool true]) := fun p => by
  have t := fits_f p x (g.w.bits.mono (by decide)) g
  simpa only [tdiv_1] using t
 have r := zuright_y 0 0 0 0 0 0 0 x ⟨j0, j0, j0, j0, j0, j0, j0, g⟩ k
 refine fn_of Tryz.func110 rfl fun ww => ?_
 refine st_know (p := p.n = false) (fun w hw => by rw [z_neg (hw (p, x) (by simp))]; simp; omega) fun hn => ?_
 clear hy y0 g hx k
 refine qF ent85 (zulen8) ?_
 refine st_g ent130 (fa (p)) (subC 0 rfl sub0) (by kernel_rfl) (fun zq1 => ?_)
 refine st_round (by kernel_rfl) ?_
 refine qF ent85 (zulen8) ?_
 refine qZ ent11 (fzint (1) (by assumption)) fun zq3 => ?_
 refine st_g ent75 (d0 (zq1) (zq3)) (subC 1 rfl (subC 0 rfl sub0)) (by kernel_rfl) (fun zq4 => ?_)
 refine qV 34 (show (p.n) = false by assumption) ?_
 refine st_fn ent36 (f0 (zq4.fst)) (subC 0 rfl sub0) (by kernel_rfl) ?_
 refine qI 46 (8 - 1) ?_
 refine qI 24 (8 + 1) ?_
 refine st_round (by kernel_rfl) ?_
 refine qF ent156 (zumade (0) (0) (0) (0) (0) (0) (0) (x)) ?_
 refine qF ent89 (r) ?_
 exact qR Tryz.func110
theorem zulay8n_y (p : ZQ) (x : Int) (hx : W128 x) (h0 : x < 0) (g : I64 x) (k : uOk 0 0 0 0 0 0 0 x) : Fn 110 [(p, x)] [zv p, .int .i64 8] (.tuple #[duv 0 0 0 0 0 0 0 x, .int .i64 0]) := by
 have hy : Bits 900 (-x) := (hx.bits.neg).mono (by decide)
 have y0 : 0 ≤ (-x) := by omega
 have bL4 : Bits 900 86400000000000 := Bits.mono (show W128 86400000000000 by unfold W128; omega).bits (by decide)
 have bL5 : Bits 900 3600000000000 := Bits.mono (show W128 3600000000000 by unfold W128; omega).bits (by decide)
 have bL6 : Bits 900 60000000000 := Bits.mono (show W128 60000000000 by unfold W128; omega).bits (by decide)
 have bL7 : Bits 900 1000000000 := Bits.mono (show W128 1000000000 by unfold W128; omega).bits (by decide)
 have bL8 : Bits 900 1 := Bits.mono (show W128 1 by unfold W128; omega).bits (by decide)
 have j1 : I64 86400000000000 := by unfold I64; omega
 have j2 : I64 3600000000000 := by unfold I64; omega
 have j3 : I64 60000000000 := by unfold I64; omega
 have j4 : I64 1000000000 := by unfold I64; omega
 have j5 : I64 1 := by unfold I64; omega
 have j0 : I64 0 := by unfold I64; omega
 have fa : ∀ p : ZQ, FnZ 130 [(p, x)] [zv p] zv (-x) := fun p => by
  have t := fzabs p x (hx.bits.fit (by decide))
  rwa [show ((x.natAbs : Nat) : Int) = -x by omega] at t
 have d0 : ∀ p q : ZQ, FnZZ 75 [(p, (-x)), (q, 1)] [zv p, zv q] (fun q => .tuple #[zv q.1, zv q.2]) ((-x).tdiv 1) ((-x).tmod 1) := fun p q => zdt p q (-x) 1 y0 hy (by omega) bL8
 have n0 : ∀ p : ZQ, FnZ 88 [(p, (-x).tdiv 1)] [zv p] zv x := fun p => by
  have t := zng p ((-x).tdiv 1) (tdvb (-x) 1 y0 hy (by omega))
  rwa [show -((-x).tdiv 1) = x by rw [Int.neg_tdiv, Int.neg_neg, tdiv_1]] at t
 have f0 : ∀ p : ZQ, Fn 36 [(p, x)] [zv p] (.tuple #[.int .i64 x, .bool true]) := fun p => by
  have t := fits_f p x (g.w.bits.mono (by decide)) g
  exact t
 have r := zuright_y 0 0 0 0 0 0 0 x ⟨j0, j0, j0, j0, j0, j0, j0, g⟩ k
 refine fn_of Tryz.func110 rfl fun ww => ?_
 refine st_know (p := p.n = true) (fun w hw => by rw [z_neg (hw (p, x) (by simp))]; simp; omega) fun hn => ?_
 clear hy y0 g hx k
 refine qF ent85 (zulen8) ?_
 refine st_g ent130 (fa (p)) (subC 0 rfl sub0) (by kernel_rfl) (fun zq1 => ?_)
 refine st_round (by kernel_rfl) ?_
 refine qF ent85 (zulen8) ?_
 refine qZ ent11 (fzint (1) (by assumption)) fun zq3 => ?_
 refine st_g ent75 (d0 (zq1) (zq3)) (subC 1 rfl (subC 0 rfl sub0)) (by kernel_rfl) (fun zq4 => ?_)
 refine qV 34 (show (p.n) = true by assumption) ?_
 refine st_g ent88 (n0 (zq4.fst)) (subC 0 rfl sub0) (by kernel_rfl) (fun zq5 => ?_)
 refine st_fn ent36 (f0 (zq5)) (subC 0 rfl sub0) (by kernel_rfl) ?_
 refine qI 46 (8 - 1) ?_
 refine qI 24 (8 + 1) ?_
 refine st_round (by kernel_rfl) ?_
 refine qF ent156 (zumade (0) (0) (0) (0) (0) (0) (0) (x)) ?_
 refine qF ent89 (r) ?_
 exact qR Tryz.func110
end Go.Proofs.YthoedmikfpbfnaaGreat
end
section
/-
 Durations: a total laid out; the other sign; sums; increments; rounding.
-/
set_option linter.unusedVariables false
set_option linter.unusedSimpArgs false
set_option maxRecDepth 100000
namespace Go.Proofs.YthoedmikfpbfnaaGreat
open Go Go.RowKit Go.Ev

section
variable (u x : Int)
abbrev lav (u x : Int) : Value := .tuple #[duv 0 0 0 (l4 u x) (l5 u x) (l6 u x) (l7 u x) (l8 u x), .int .i64 0]
abbrev la4 : Value := .tuple #[du0, .int .i64 4]
theorem ulay_y (hx : W128 x) (k : layOk u x) : Fn 97 [] [wv x, .int .i64 u] (lav u x) := by
 have r := lay_ok k
 obtain ⟨⟨k1, k2⟩, k3, k4⟩ := k
 have r := r.1
 rcases units k1 k2 with rfl | rfl | rfl | rfl | rfl <;> simp only [l4, l5, l6, l7, l8, ulen, lav, Int.reduceEq, Int.reduceLE, if_true, if_false, tdiv_1] at r k4 ⊢
 ·exact ulay4_y x hx k4 r
 ·exact ulay5_y x hx k4 r
 ·exact ulay6_y x hx k4 r
 ·exact ulay7_y x hx k4 r
 ·exact ulay8_y x hx k4 r
variable (p : ZQ)
theorem zulay_y (hx : W128 x) (k : layOk u x) : Fn 110 [(p, x)] [zv p, .int .i64 u] (lav u x) := by
 have r := lay_ok k
 obtain ⟨⟨k1, k2⟩, k3, k4⟩ := k
 have r := r.1
 by_cases h0 : 0 ≤ x
 ·rcases units k1 k2 with rfl | rfl | rfl | rfl | rfl <;> simp only [l4, l5, l6, l7, l8, ulen, lav, Int.reduceEq, Int.reduceLE, if_true, if_false, tdiv_1] at r k4 ⊢
  ·exact zulay4p_y p x hx h0 k4 r
  ·exact zulay5p_y p x hx h0 k4 r
  ·exact zulay6p_y p x hx h0 k4 r
  ·exact zulay7p_y p x hx h0 k4 r
  ·exact zulay8p_y p x hx h0 k4 r
 ·have h0 : x < 0 := by omega
  rcases units k1 k2 with rfl | rfl | rfl | rfl | rfl <;> simp only [l4, l5, l6, l7, l8, ulen, lav, Int.reduceEq, Int.reduceLE, if_true, if_false, tdiv_1] at r k4 ⊢
  ·exact zulay4n_y p x hx h0 k4 r
  ·exact zulay5n_y p x hx h0 k4 r
  ·exact zulay6n_y p x hx h0 k4 r
  ·exact zulay7n_y p x hx h0 k4 r
  ·exact zulay8n_y p x hx h0 k4 r
end
end Go.Proofs.YthoedmikfpbfnaaGreat
end
section
/-
 Durations: increments, sums, rounding; the laws DurationUnits, DurationLays, DurationTotals.
-/
set_option linter.unusedVariables false
set_option linter.unusedSimpArgs false
set_option maxRecDepth 100000
namespace Go.Proofs.YthoedmikfpbfnaaGreat
open Go Go.RowKit Go.Ev

section
variable (u i : Int)
theorem i64_0 : I64 0 := by unfold I64; omega
theorem I64.w' {x : Int} (h : I64 x) : W128 x := h.w
end
end Go.Proofs.YthoedmikfpbfnaaGreat
end
section
/-
 Durations put to days and to date-times: what the program answers of layer 19.
-/
set_option linter.unusedVariables false
set_option linter.unusedSimpArgs false
set_option maxRecDepth 100000
namespace Go.Proofs.YthoedmikfpbfnaaGreat
open Go Go.RowKit Go.Ev

abbrev dv0 : Value := dv 0 0 0
section
variable (y m d n T : Int)
theorem creg_cy (m1 : 1 ≤ m) (m2 : m ≤ 12) (d1 : 1 ≤ d) (k : dOk y m (cD y m d)) : Fn 125 [] [.int .i64 y, .int .i64 m, .int .i64 d, .int .i64 1] (.tuple #[dv y m (cD y m d), .int .i64 0]) := by
 have c1 := cmonth y m
 obtain ⟨l, hl⟩ : ∃ l, l = mlen y m := ⟨_, rfl⟩
 have hc : cD y m d = if l < d then l else d := by rw [hl]; rfl
 rw [hc] at k ⊢
 rw [← hl] at c1
 by_cases q : l < d
 ·rw [if_pos q] at k ⊢
  refine fn_of Tryz.func125 rfl fun ww => ?_
  refine st_i 16 IntKind.i64 (x := if 1 > m then 1 else m) (if_neg (by omega)) (by kernel_rfl) ?_
  refine st_i 17 IntKind.i64 (x := if 12 < m then 12 else m) (if_neg (by omega)) (by kernel_rfl) ?_
  refine st_i 19 IntKind.i64 (x := if 1 > d then 1 else d) (if_neg (by omega)) (by kernel_rfl) ?_
  refine qF ent145 (c1) ?_
  refine st_i 23 IntKind.i64 (x := if l < d then l else d) (if_pos q) (by kernel_rfl) ?_
  refine qF ent161 (cright5_yes (y) (m) (l) (by assumption)) ?_
  exact qR Tryz.func125
 ·rw [if_neg q] at k ⊢
  refine fn_of Tryz.func125 rfl fun ww => ?_
  refine st_i 16 IntKind.i64 (x := if 1 > m then 1 else m) (if_neg (by omega)) (by kernel_rfl) ?_
  refine st_i 17 IntKind.i64 (x := if 12 < m then 12 else m) (if_neg (by omega)) (by kernel_rfl) ?_
  refine st_i 19 IntKind.i64 (x := if 1 > d then 1 else d) (if_neg (by omega)) (by kernel_rfl) ?_
  refine qF ent145 (c1) ?_
  refine st_i 23 IntKind.i64 (x := if l < d then l else d) (if_neg q) (by kernel_rfl) ?_
  refine qF ent161 (cright5_yes (y) (m) (d) (by assumption)) ?_
  exact qR Tryz.func125
theorem creg_cn (m1 : 1 ≤ m) (m2 : m ≤ 12) (d1 : 1 ≤ d) (k : ¬ dOk y m (cD y m d)) : Fn 125 [] [.int .i64 y, .int .i64 m, .int .i64 d, .int .i64 1] (.tuple #[dv0, .int .i64 4]) := by
 have c1 := cmonth y m
 obtain ⟨l, hl⟩ : ∃ l, l = mlen y m := ⟨_, rfl⟩
 have hc : cD y m d = if l < d then l else d := by rw [hl]; rfl
 rw [hc] at k
 rw [← hl] at c1
 by_cases q : l < d
 ·rw [if_pos q] at k
  refine fn_of Tryz.func125 rfl fun ww => ?_
  refine st_i 16 IntKind.i64 (x := if 1 > m then 1 else m) (if_neg (by omega)) (by kernel_rfl) ?_
  refine st_i 17 IntKind.i64 (x := if 12 < m then 12 else m) (if_neg (by omega)) (by kernel_rfl) ?_
  refine st_i 19 IntKind.i64 (x := if 1 > d then 1 else d) (if_neg (by omega)) (by kernel_rfl) ?_
  refine qF ent145 (c1) ?_
  refine st_i 23 IntKind.i64 (x := if l < d then l else d) (if_pos q) (by kernel_rfl) ?_
  refine qF ent161 (cright5_no (y) (m) (l) (by assumption)) ?_
  exact qR Tryz.func125
 ·rw [if_neg q] at k
  refine fn_of Tryz.func125 rfl fun ww => ?_
  refine st_i 16 IntKind.i64 (x := if 1 > m then 1 else m) (if_neg (by omega)) (by kernel_rfl) ?_
  refine st_i 17 IntKind.i64 (x := if 12 < m then 12 else m) (if_neg (by omega)) (by kernel_rfl) ?_
  refine st_i 19 IntKind.i64 (x := if 1 > d then 1 else d) (if_neg (by omega)) (by kernel_rfl) ?_
  refine qF ent145 (c1) ?_
  refine st_i 23 IntKind.i64 (x := if l < d then l else d) (if_neg q) (by kernel_rfl) ?_
  refine qF ent161 (cright5_no (y) (m) (d) (by assumption)) ?_
  exact qR Tryz.func125
variable (o k A B C e : Int)
theorem cknown_y (h : o = 1 ∨ o = 2) : Fn 69 [] [.int .i64 o] (.bool true) := by
 rcases h with rfl | rfl
 ·refine fn_of Tryz.func69 rfl fun ww => ?_
  exact qR Tryz.func69
 ·refine fn_of Tryz.func69 rfl fun ww => ?_
  exact qR Tryz.func69
theorem cmov_e (hl : Fn 124 [] [dv y m d, .int .i64 k] (dv (lY T) (lM T) d)) (hr : Fn 125 [] [.int .i64 (lY T), .int .i64 (lM T), .int .i64 d, .int .i64 o] (.tuple #[dv0, .int .i64 e])) (he : e ≠ 0) :
  Fn 72 [] [dv y m d, .int .i64 k, .int .i64 n, .int .i64 o] (.tuple #[dv0, .int .i64 e]) := by
 refine fn_of Tryz.func72 rfl fun ww => ?_
 refine qF ent124 (hl) ?_
 refine qF ent125 (hr) ?_
 refine qV 27 (show (e != 0) = true by exact bne_iff_ne.2 (by omega)) ?_
 exact qR Tryz.func72
theorem cmov_v (Y M D : Int) (hl : Fn 124 [] [dv y m d, .int .i64 k] (dv (lY T) (lM T) d)) (hr : Fn 125 [] [.int .i64 (lY T), .int .i64 (lM T), .int .i64 d, .int .i64 o] (.tuple #[dv Y M D, .int .i64 0])) (ha : Fn 99 [] [dv Y M D, .int .i64 n] (.tuple #[dv A B C, .int .i64 e])) :
  Fn 72 [] [dv y m d, .int .i64 k, .int .i64 n, .int .i64 o] (.tuple #[dv A B C, .int .i64 e]) := by
 refine fn_of Tryz.func72 rfl fun ww => ?_
 refine qF ent124 (hl) ?_
 refine qF ent125 (hr) ?_
 refine qF ent99 (ha) ?_
 exact qR Tryz.func72
end
theorem uOk_bd {a b c d h mi s n : Int} (k : uOk a b c d h mi s n) : (-4294967295 ≤ a ∧ a ≤ 4294967295) ∧ (-4294967295 ≤ b ∧ b ≤ 4294967295) ∧ (-4294967295 ≤ c ∧ c ≤ 4294967295) ∧ (-104249991400 ≤ d ∧ d ≤ 104249991400) ∧ (-9007199254740992000000000 < dtot 0 h mi s n ∧ dtot 0 h mi s n < 9007199254740992000000000) := by
 unfold uOk pos8 neg8 cnt1 dtot LIM at k; unfold dtot; omega
theorem uOk_part {a b c d h mi s n : Int} (k : uOk a b c d h mi s n) : uOk 0 0 0 0 h mi s n := by
 unfold uOk pos8 neg8 cnt1 dtot LIM at *; omega
theorem all64_part {a b c d h mi s n : Int} (i : all64 a b c d h mi s n) : all64 0 0 0 0 h mi s n := ⟨i64_0, i64_0, i64_0, i64_0, i.2.2.2.2.1, i.2.2.2.2.2.1, i.2.2.2.2.2.2.1, i.2.2.2.2.2.2.2⟩
section
variable (a b c d h mi s n : Int)
theorem cpart (i : all64 a b c d h mi s n) (k : uOk a b c d h mi s n) : Fn 71 [] [duv a b c d h mi s n] (wv (dtot 0 h mi s n)) := by
 have t := utotal_y 0 0 0 0 h mi s n (all64_part i) (uOk_part k)
 clear i k
 refine fn_of Tryz.func71 rfl fun ww => ?_
 refine qF ent123 (t) ?_
 exact qR Tryz.func71
variable (Y M D o A B C e : Int)
end
/-! date-times -/
theorem fcadd (h m s n w Q R : Int) (k : tOk h m s n) (hb : -9007199254740992000000000 < w ∧ w < 9007199254740992000000000) (hQ : (tnan h m s n + w).fdiv 86400000000000 = Q) (hR : (tnan h m s n + w).fmod 86400000000000 = R) :
  Fn 70 [] [tv h m s n, wv w] (.tuple #[tv (tH R) (tM R) (tS R) (tN R), .int .i64 Q, .int .i64 0]) := by
 have hw : W128 w := by unfold W128; omega
 have b := tnan_bd k
 have db := dby_f w 86400000000000 hw (by omega) (by unfold I64; omega)
 have e1 : w.fdiv 86400000000000 * 86400000000000 + w.fmod 86400000000000 = w ∧ 0 ≤ w.fmod 86400000000000 ∧ w.fmod 86400000000000 < 86400000000000 := x_split w
 have e2 : Q * 86400000000000 + R = tnan h m s n + w ∧ 0 ≤ R ∧ R < 86400000000000 := by rw [← hQ, ← hR]; exact x_split _
 generalize w.fdiv 86400000000000 = q at *
 generalize w.fmod 86400000000000 = r at *
 have nn := fcnanos_yes h m s n k
 generalize tnan h m s n = t at *
 clear hQ hR k
 obtain ⟨e1, e3, e4⟩ := e1
 obtain ⟨e2, e5, e6⟩ := e2
 by_cases c : t + r < 86400000000000
 ·obtain rfl : Q = q := by omega
  obtain rfl : R = t + r := by omega
  have iq : I64 Q := by unfold I64; omega
  refine fn_of Tryz.func70 rfl fun ww => ?_
  refine qF ent98 (nn) ?_
  refine qF ent118 (db) ?_
  refine qI 31 (t + r) ?_
  refine qN 33 (decide (t + r ≥ 86400000000000)) ?_
  refine qF ent50 (wint_f (Q) (by assumption)) ?_
  refine qF ent120 (fcof_yes (t + r) (by assumption) (by assumption)) ?_
  exact qR Tryz.func70
 ·obtain rfl : Q = q + 1 := by omega
  obtain rfl : R = t + r - 86400000000000 := by omega
  have iq : I64 (q + 1) := by unfold I64; omega
  have w1 : W128 q := by unfold W128; omega
  have w2 : W128 (q + 1) := iq.w
  have i1 : I64 1 := by unfold I64; omega
  refine fn_of Tryz.func70 rfl fun ww => ?_
  refine qF ent98 (nn) ?_
  refine qF ent118 (db) ?_
  refine qI 31 (t + r) ?_
  refine qY 33 (decide (t + r ≥ 86400000000000)) ?_
  refine qI 35 (t + r - 86400000000000) ?_
  refine qF ent30 (wof_fn (1) (by assumption)) ?_
  refine qF ent44 (wadd_yes (q) (1) (by assumption) (by (unfold W128; omega)) (by assumption)) ?_
  refine qF ent50 (wint_f (q + 1) (by assumption)) ?_
  refine qF ent120 (fcof_yes (t + r - 86400000000000) (by assumption) (by assumption)) ?_
  exact qR Tryz.func70
section
variable (y mo D h m s n a b c d hh mi ss nn o A B C e : Int)
variable (Q R : Int)
theorem cad_e (i : all64 a b c d hh mi ss nn) (k1 : pOk y mo D h m s n) (k2 : uOk a b c d hh mi ss nn) (k3 : o = 1 ∨ o = 2) (hQ : (tnan h m s n + dtot 0 hh mi ss nn).fdiv 86400000000000 = Q) (hR : (tnan h m s n + dtot 0 hh mi ss nn).fmod 86400000000000 = R) (qb : -200000000000 ≤ Q ∧ Q ≤ 200000000000)
  (hm : Fn 72 [] [dv y mo D, .int .i64 (12 * a + b), .int .i64 (d + 7 * c + Q), .int .i64 o] (.tuple #[dv0, .int .i64 e])) (he : e ≠ 0) : Fn 26 [] [ptv y mo D h m s n, duv a b c d hh mi ss nn, .int .i64 o] (.tuple #[pt0, .int .i64 e]) := by
 have r1 := pright_yes y mo D h m s n k1
 have r2 := uright_y a b c d hh mi ss nn i k2
 have r3 := cknown_y o k3
 have r4 := cpart a b c d hh mi ss nn i k2
 obtain ⟨b1, b2, b3, b4, b5⟩ := uOk_bd k2
 have r5 := fcadd h m s n _ Q R k1.2.1 b5 hQ hR
 clear i k1 k2 k3 hQ hR b5
 refine fn_of Tryz.func26 rfl fun ww => ?_
 refine qF ent18 (r1) ?_
 refine qF ent25 (r2) ?_
 refine qF ent69 (r3) ?_
 refine qF ent71 (r4) ?_
 refine qF ent70 (r5) ?_
 refine qI 45 (12 * a) ?_
 refine qI 48 (12 * a + b) ?_
 refine qI 53 (7 * c) ?_
 refine qI 54 (d + 7 * c) ?_
 refine qI 56 (d + 7 * c + Q) ?_
 refine qF ent72 (hm) ?_
 refine qV 66 (show (e != 0) = true by exact bne_iff_ne.2 (by omega)) ?_
 exact qR Tryz.func26
theorem cad_n (i : all64 a b c d hh mi ss nn) (k1 : pOk y mo D h m s n) (k2 : uOk a b c d hh mi ss nn) (k3 : o = 1 ∨ o = 2) (hQ : (tnan h m s n + dtot 0 hh mi ss nn).fdiv 86400000000000 = Q) (hR : (tnan h m s n + dtot 0 hh mi ss nn).fmod 86400000000000 = R) (qb : -200000000000 ≤ Q ∧ Q ≤ 200000000000)
  (hm : Fn 72 [] [dv y mo D, .int .i64 (12 * a + b), .int .i64 (d + 7 * c + Q), .int .i64 o] (.tuple #[dv A B C, .int .i64 0])) (hp : ¬ pOk A B C (tH R) (tM R) (tS R) (tN R)) : Fn 26 [] [ptv y mo D h m s n, duv a b c d hh mi ss nn, .int .i64 o] (.tuple #[pt0, .int .i64 4]) := by
 have r1 := pright_yes y mo D h m s n k1
 have r2 := uright_y a b c d hh mi ss nn i k2
 have r3 := cknown_y o k3
 have r4 := cpart a b c d hh mi ss nn i k2
 obtain ⟨b1, b2, b3, b4, b5⟩ := uOk_bd k2
 have r5 := fcadd h m s n _ Q R k1.2.1 b5 hQ hR
 have r6 := pright_no _ _ _ _ _ _ _ hp
 clear i k1 k2 k3 hQ hR b5 hp
 refine fn_of Tryz.func26 rfl fun ww => ?_
 refine qF ent18 (r1) ?_
 refine qF ent25 (r2) ?_
 refine qF ent69 (r3) ?_
 refine qF ent71 (r4) ?_
 refine qF ent70 (r5) ?_
 refine qI 45 (12 * a) ?_
 refine qI 48 (12 * a + b) ?_
 refine qI 53 (7 * c) ?_
 refine qI 54 (d + 7 * c) ?_
 refine qI 56 (d + 7 * c + Q) ?_
 refine qF ent72 (hm) ?_
 refine qF ent18 (r6) ?_
 exact qR Tryz.func26
theorem cad_y (i : all64 a b c d hh mi ss nn) (k1 : pOk y mo D h m s n) (k2 : uOk a b c d hh mi ss nn) (k3 : o = 1 ∨ o = 2) (hQ : (tnan h m s n + dtot 0 hh mi ss nn).fdiv 86400000000000 = Q) (hR : (tnan h m s n + dtot 0 hh mi ss nn).fmod 86400000000000 = R) (qb : -200000000000 ≤ Q ∧ Q ≤ 200000000000)
  (hm : Fn 72 [] [dv y mo D, .int .i64 (12 * a + b), .int .i64 (d + 7 * c + Q), .int .i64 o] (.tuple #[dv A B C, .int .i64 0])) (hp : pOk A B C (tH R) (tM R) (tS R) (tN R)) : Fn 26 [] [ptv y mo D h m s n, duv a b c d hh mi ss nn, .int .i64 o] (.tuple #[ptv A B C (tH R) (tM R) (tS R) (tN R), .int .i64 0]) := by
 have r1 := pright_yes y mo D h m s n k1
 have r2 := uright_y a b c d hh mi ss nn i k2
 have r3 := cknown_y o k3
 have r4 := cpart a b c d hh mi ss nn i k2
 obtain ⟨b1, b2, b3, b4, b5⟩ := uOk_bd k2
 have r5 := fcadd h m s n _ Q R k1.2.1 b5 hQ hR
 have r6 := pright_yes _ _ _ _ _ _ _ hp
 clear i k1 k2 k3 hQ hR b5 hp
 refine fn_of Tryz.func26 rfl fun ww => ?_
 refine qF ent18 (r1) ?_
 refine qF ent25 (r2) ?_
 refine qF ent69 (r3) ?_
 refine qF ent71 (r4) ?_
 refine qF ent70 (r5) ?_
 refine qI 45 (12 * a) ?_
 refine qI 48 (12 * a + b) ?_
 refine qI 53 (7 * c) ?_
 refine qI 54 (d + 7 * c) ?_
 refine qI 56 (d + 7 * c + Q) ?_
 refine qF ent72 (hm) ?_
 refine qF ent18 (r6) ?_
 exact qR Tryz.func26
end
end Go.Proofs.YthoedmikfpbfnaaGreat
end
section
/-
 What lies between two days, by every unit; what every right program answers of layer 19; the law CalendarUntils.
-/
set_option linter.unusedVariables false
set_option linter.unusedSimpArgs false
set_option maxRecDepth 100000
namespace Go.Proofs.YthoedmikfpbfnaaGreat
open Go Go.RowKit Go.Ev

section
variable (L y m d y' m' d' : Int)
abbrev uvd : Value := .tuple #[duv (uY L y m d y' m' d') (uMo L y m d y' m' d') (uW L y m d y' m' d') (uD L y m d y' m' d') 0 0 0 0, .int .i64 0]
theorem duv_eq {a b c d a' b' c' d' : Int} (e1 : a = a') (e2 : b = b') (e3 : c = c') (e4 : d = d') : Value.tuple #[duv a b c d 0 0 0 0, .int .i64 0] = .tuple #[duv a' b' c' d' 0 0 0 0, .int .i64 0] := by rw [e1, e2, e3, e4]
theorem unt_all {f : FuncId} (h : dOk y m d) (h' : dOk y' m' d') (hL : 1 ≤ L) (hL' : L ≤ 4)
  (f0 : ∀ L : Int, (L = 1 ∨ L = 2) → cmp3 y' m' d' y m d = 0 → Fn f [] [dv y m d, dv y' m' d', .int .i64 L] (.tuple #[du0, .int .i64 0]))
  (f1 : ∀ s N T : Int, (s = 1 ∨ s = -1) → cmp3 y' m' d' y m d = s → mM s y m d y' m' d' = N → ymi y m + s * N = T → Fn f [] [dv y m d, dv y' m' d', .int .i64 1] (.tuple #[duv (s * (N / 12)) (s * (N - 12 * (N / 12))) 0 (dnum y' m' d' - dnum (lY T) (lM T) (cD (lY T) (lM T) d)) 0 0 0 0, .int .i64 0]))
  (f2 : ∀ s N T : Int, (s = 1 ∨ s = -1) → cmp3 y' m' d' y m d = s → mM s y m d y' m' d' = N → ymi y m + s * N = T → Fn f [] [dv y m d, dv y' m' d', .int .i64 2] (.tuple #[duv 0 (s * N) 0 (dnum y' m' d' - dnum (lY T) (lM T) (cD (lY T) (lM T) d)) 0 0 0 0, .int .i64 0]))
  (f3 : Fn f [] [dv y m d, dv y' m' d', .int .i64 3] (.tuple #[duv 0 0 ((dnum y' m' d' - dnum y m d).tdiv 7) ((dnum y' m' d' - dnum y m d).tmod 7) 0 0 0 0, .int .i64 0]))
  (f4 : Fn f [] [dv y m d, dv y' m' d', .int .i64 4] (.tuple #[duv 0 0 0 (dnum y' m' d' - dnum y m d) 0 0 0 0, .int .i64 0])) : Fn f [] [dv y m d, dv y' m' d', .int .i64 L] (uvd L y m d y' m' d') := by
 have l : L = 1 ∨ L = 2 ∨ L = 3 ∨ L = 4 := by omega
 have us := until_sign h h' hL hL' _ rfl
 by_cases z : uS y m d y' m' d' = 0
 ·obtain ⟨z1, z2, z3, z4⟩ := us.2.2.2.2.2.2.2.2.1 z
  rcases l with rfl | rfl | rfl | rfl
  ·have := f0 1 (.inl rfl) z; rwa [show uvd 1 y m d y' m' d' = _ from duv_eq z1 z2 z3 z4]
  ·have := f0 2 (.inr rfl) z; rwa [show uvd 2 y m d y' m' d' = _ from duv_eq z1 z2 z3 z4]
  ·exact f3
  ·exact f4
 ·have hs : uS y m d y' m' d' = 1 ∨ uS y m d y' m' d' = -1 := by
   rcases cmp3_tri y' m' d' y m d with k | k | k
   ·exact .inr k
   ·exact absurd k z
   ·exact .inl k
  rcases l with rfl | rfl | rfl | rfl
  ·have := f1 (uS y m d y' m' d') (uMM y m d y' m' d') _ hs rfl rfl rfl
   rw [show uMM y m d y' m' d' - 12 * (uMM y m d y' m' d' / 12) = uMM y m d y' m' d' % 12 by omega] at this
   exact this
  ·exact f2 (uS y m d y' m' d') (uMM y m d y' m' d') _ hs rfl rfl rfl
  ·exact f3
  ·exact f4
theorem cunt (h : dOk y m d) (h' : dOk y' m' d') (hL : 1 ≤ L) (hL' : L ≤ 4) : Fn 100 [] [dv y m d, dv y' m' d', .int .i64 L] (uvd L y m d y' m' d') :=
 unt_all L y m d y' m' d' h h' hL hL' (fun L l e => cunt_0 y m d y' m' d' L l h h' e) (fun s N T a b c e => cunt_1 y m d y' m' d' s N T h h' a b c e) (fun s N T a b c e => cunt_2 y m d y' m' d' s N T h h' a b c e) (cunt_3 y m d y' m' d' h h') (cunt_4 y m d y' m' d' h h')
theorem zunt (h : dOk y m d) (h' : dOk y' m' d') (hL : 1 ≤ L) (hL' : L ≤ 4) : Fn 113 [] [dv y m d, dv y' m' d', .int .i64 L] (uvd L y m d y' m' d') :=
 unt_all L y m d y' m' d' h h' hL hL' (fun L l e => zunt_0 y m d y' m' d' L l h h' e) (fun s N T a b c e => zunt_1 y m d y' m' d' s N T h h' a b c e) (fun s N T a b c e => zunt_2 y m d y' m' d' s N T h h' a b c e) (zunt_3 y m d y' m' d' h h') (zunt_4 y m d y' m' d' h h')
end
theorem cmoved_c (y m d k n T S : Int) (hT : ymi y m + k = T) (y0 : -10000000 ≤ y) (y1 : y ≤ 10000000) (m1 : 1 ≤ m) (m2 : m ≤ 12) (k0 : -1000000000000 ≤ k) (k1 : k ≤ 1000000000000) (d1 : 1 ≤ d) (q : dOk (lY T) (lM T) (cD (lY T) (lM T) d)) (hS : dnum (lY T) (lM T) (cD (lY T) (lM T) d) + n = S) (S0 : -100000001 ≤ S) (S1 : S ≤ 100000000) :
  Fn 72 [] [dv y m d, .int .i64 k, .int .i64 n, .int .i64 1] (.tuple #[dv (dY S) (dM S) (dD S), .int .i64 0]) := by
 have ad := caddd_yes (lY T) (lM T) (cD (lY T) (lM T) d) n q (by omega) (by omega)
 rw [hS] at ad
 exact cmov_v y m d n T 1 k _ _ _ 0 _ _ _ (clater y m d k T (by unfold ymi at hT; omega) y0 y1 m1 m2 k0 k1) (creg_cy (lY T) (lM T) d (ymi_l T).2.1 (ymi_l T).2.2 d1 q) ad
end Go.Proofs.YthoedmikfpbfnaaGreat
end
section
/-
 What lies between date-times, put to the first one; the law CalendarBack.
-/
set_option linter.unusedVariables false
set_option linter.unusedSimpArgs false
set_option maxRecDepth 100000
namespace Go.Proofs.YthoedmikfpbfnaaGreat
open Go Go.RowKit Go.Ev

section
variable {L y m d y' m' d' : Int}
theorem uv_bd (h : dOk y m d) (h' : dOk y' m' d') (hL : 1 ≤ L) (hL' : L ≤ 4) :
    (-600000 ≤ uY L y m d y' m' d' ∧ uY L y m d y' m' d' ≤ 600000) ∧ (-7200000 ≤ uMo L y m d y' m' d' ∧ uMo L y m d y' m' d' ≤ 7200000) ∧ (-200000001 ≤ uW L y m d y' m' d' ∧ uW L y m d y' m' d' ≤ 200000001) ∧ (-200000001 ≤ uD L y m d y' m' d' ∧ uD L y m d y' m' d' ≤ 200000001) ∧
    (uS y m d y' m' d' = 1 ∧ 0 ≤ uY L y m d y' m' d' ∧ 0 ≤ uMo L y m d y' m' d' ∧ 0 ≤ uW L y m d y' m' d' ∧ 0 ≤ uD L y m d y' m' d' ∨
     uS y m d y' m' d' = -1 ∧ uY L y m d y' m' d' ≤ 0 ∧ uMo L y m d y' m' d' ≤ 0 ∧ uW L y m d y' m' d' ≤ 0 ∧ uD L y m d y' m' d' ≤ 0 ∨
     uS y m d y' m' d' = 0 ∧ uY L y m d y' m' d' = 0 ∧ uMo L y m d y' m' d' = 0 ∧ uW L y m d y' m' d' = 0 ∧ uD L y m d y' m' d' = 0) ∧
    (L = 1 → -12 < uMo L y m d y' m' d' ∧ uMo L y m d y' m' d' < 12) ∧ (L ≤ 2 → -31 < uD L y m d y' m' d' ∧ uD L y m d y' m' d' < 31) ∧ (L = 3 → -7 < uD L y m d y' m' d' ∧ uD L y m d y' m' d' < 7) := by
  have us := until_sign h h' hL hL' _ rfl
  have tr : uS y m d y' m' d' = -1 ∨ uS y m d y' m' d' = 0 ∨ uS y m d y' m' d' = 1 := cmp3_tri y' m' d' y m d
  generalize uS y m d y' m' d' = s at *
  generalize uY L y m d y' m' d' = A at *
  generalize uMo L y m d y' m' d' = B at *
  generalize uW L y m d y' m' d' = C at *
  generalize uD L y m d y' m' d' = D at *
  obtain ⟨u1, u2, u3, u4, u5, u6, u7, u8, u9, u10, u11, u12⟩ := us
  rcases tr with rfl | rfl | rfl
  · refine ⟨by omega, by omega, by omega, by omega, .inr (.inl ⟨rfl, by omega, by omega, by omega, by omega⟩), fun l => ?_, fun l => ?_, fun l => ?_⟩
    · have := u10 l; omega
    · have := u11 l; omega
    · have := u12 l; omega
  · obtain ⟨v1, v2, v3, v4⟩ := u9 rfl
    exact ⟨by omega, by omega, by omega, by omega, .inr (.inr ⟨rfl, v1, v2, v3, v4⟩), fun l => by omega, fun l => by omega, fun l => by omega⟩
  · refine ⟨by omega, by omega, by omega, by omega, .inl ⟨rfl, by omega, by omega, by omega, by omega⟩, fun l => ?_, fun l => ?_, fun l => ?_⟩
    · have := u10 l; omega
    · have := u11 l; omega
    · have := u12 l; omega
end
section
variable {A B C D z : Int}
theorem lay5_ok (hz : -86400000000000 < z ∧ z < 86400000000000) : layOk 5 z := by
 have := td z 3600000000000 (by omega)
 refine ⟨⟨by omega, by omega⟩, ⟨by unfold LIM; omega, by unfold LIM; omega⟩, ?_⟩
 show -9223372036854775808 ≤ z.tdiv 3600000000000 ∧ z.tdiv 3600000000000 ≤ 9223372036854775807
 omega
end
section
variable (y mo d h m s n y' mo' d' h' m' s' n' L E Z : Int)
theorem cbet (k : pOk y mo d h m s n) (k' : pOk y' mo' d' h' m' s' n') (l1 : 1 ≤ L) (l2 : L ≤ 4) (hE : bD y mo d h m s n y' mo' d' h' m' s' n' = E) (hZ : bZ y mo d h m s n y' mo' d' h' m' s' n' = Z) :
  Fn 42 [] [ptv y mo d h m s n, ptv y' mo' d' h' m' s' n', .int .i64 L] (.tuple #[duv (uY L y mo d (dY E) (dM E) (dD E)) (uMo L y mo d (dY E) (dM E) (dD E)) (uW L y mo d (dY E) (dM E) (dD E)) (uD L y mo d (dY E) (dM E) (dD E)) (l5 5 Z) (l6 5 Z) (l7 5 Z) (l8 5 Z), .int .i64 0]) := by
 obtain ⟨i1, i2, -⟩ := bt_in k k'
 obtain ⟨d1, d2⟩ := bt_date k k'
 rw [hE] at i1 d1 d2
 rw [hZ] at i2
 have la := ulay_y 5 Z (by unfold W128; omega) (lay5_ok i2)
 unfold bD at hE
 unfold bZ at hZ
 by_cases c : (tnan h' m' s' n' - tnan h m s n) * uS y mo d y' mo' d' < 0
 ·have hX : bX y mo d h m s n y' mo' d' h' m' s' n' = uS y mo d y' mo' d' := if_pos c
  rw [hX] at hE hZ
  have hv : uS y mo d y' mo' d' = -1 ∨ uS y mo d y' mo' d' = 1 := by
   rcases cmp3_tri y' mo' d' y mo d with q | q | q
   ·exact .inl q
   ·have q' : uS y mo d y' mo' d' = 0 := q
    rw [q'] at c; omega
   ·exact .inr q
  have ad := caddd_yes y' mo' d' (-(uS y mo d y' mo' d')) k'.1 (by omega) (by omega)
  rw [show dnum y' mo' d' + -(uS y mo d y' mo' d') = E by omega] at ad
  rw [← hZ] at la
  have := cbet_s y mo d h m s n y' mo' d' h' m' s' n' L _ _ _ _ _ _ _ _ 0 k k' l1 l2 (uS y mo d y' mo' d') (tnan h' m' s' n' - tnan h m s n) hv rfl rfl c (dY E) (dM E) (dD E) _ _ _ _ 0 ad (cunt L y mo d (dY E) (dM E) (dD E) k.1 d1 l1 l2) la
  rw [hZ] at this
  exact this
 ·have hX : bX y mo d h m s n y' mo' d' h' m' s' n' = 0 := if_neg c
  rw [hX] at hE hZ
  obtain rfl : E = dnum y' mo' d' := by omega
  have z' : tnan h' m' s' n' - tnan h m s n = Z := by omega
  have hv : uS y mo d y' mo' d' = -1 ∨ uS y mo d y' mo' d' = 0 ∨ uS y mo d y' mo' d' = 1 := cmp3_tri y' mo' d' y mo d
  rw [z'] at c
  rw [(date_of k'.1.1).1, (date_of k'.1.1).2.1, (date_of k'.1.1).2.2]
  exact cbet_n y mo d h m s n y' mo' d' h' m' s' n' L _ _ _ _ _ _ _ _ 0 k k' l1 l2 (uS y mo d y' mo' d') Z hv rfl z' c _ _ _ _ 0 (cunt L y mo d y' mo' d' k.1 k'.1 l1 l2) la
variable (A B C D H M S T e A' B' C' D' H' M' S' T' g : Int)
end
end Go.Proofs.YthoedmikfpbfnaaGreat
end
section
/-
 round.extreme; the law RoundRatios by its two calls.
-/
set_option linter.unusedVariables false
set_option maxRecDepth 100000
namespace Go.Proofs.YthoedmikfpbfnaaGreat
open Go Go.RowKit Go.Ev

abbrev zz : Value := .agg #[.int .i64 0, .int .u64 0]
theorem ext_over (n d mode : Int) (hm : (hi d == -9223372036854775808 && (lo d == 0 && true)) = false) (hf : Fn 107 [] [wv n, wv d] (.tuple #[zz, zz, .int .i64 2])) : Fn 106 [] [wv n, wv d, .int .i64 mode] (.tuple #[zz, .int .i64 2]) := by
 have hm' : (!(hi d == -9223372036854775808 && (lo d == 0 && true))) = true := by rw [hm]; rfl
 refine fn_of Tryz.func106 rfl fun ww => ?_
 refine qV 25 (show (!(hi d == -9223372036854775808 && (lo d == 0 && true))) = true by assumption) ?_
 refine qF ent107 (hf) ?_
 exact qR Tryz.func106
theorem ext_a (n d q r' r D mode : Int) (h1 : 1 ≤ mode) (h2 : mode ≤ 9) (hm : (hi d == -9223372036854775808 && (lo d == 0 && true)) = false) (hf : Fn 107 [] [wv n, wv d] (.tuple #[wv q, wv r', .int .i64 0]))
  (hn1 : Fn 67 [] [wv r'] (.tuple #[wv r, .int .i64 0])) (hn2 : Fn 67 [] [wv d] (.tuple #[wv D, .int .i64 0])) (hz : (hi r' == 0 && (lo r' == 0 && true)) = false) (hr : W128 r) (hD : W128 D) (hl : W128 (D - r)) (hq : W128 q) :
  Fn 106 [] [wv n, wv d, .int .i64 mode] (rtv (if upB mode false (cmpI r (D - r)) (decide (q % 2 = 0)) = true then q + 1 else q)) := by
 have hm' : (!(hi d == -9223372036854775808 && (lo d == 0 && true))) = true := by rw [hm]; rfl
 by_cases hu : upB mode false (cmpI r (D - r)) (decide (q % 2 = 0)) = true
 ·rw [if_pos hu]
  refine fn_of Tryz.func106 rfl fun ww => ?_
  refine qV 25 (show (!(hi d == -9223372036854775808 && (lo d == 0 && true))) = true by assumption) ?_
  refine qF ent107 (hf) ?_
  refine qV 38 (show (hi r' == 0 && (lo r' == 0 && true)) = false by assumption) ?_
  refine qF ent67 (hn1) ?_
  refine qF ent67 (hn2) ?_
  refine qF ent109 (between_fn (q) (r) (D) (false) (by assumption) (by assumption) (by assumption)) ?_
  refine qF ent108 (up_t (mode) (false) (cmpI r (D - r)) (decide (q % 2 = 0)) (by assumption) (by assumption) (by assumption)) ?_
  refine qF ent30 (wof_fn (1) (by (unfold I64; omega))) ?_
  refine qF ent44 (wadd_any (q) (1) (by assumption) (by (unfold W128; omega))) ?_
  exact qR Tryz.func106
 ·have hu' : upB mode false (cmpI r (D - r)) (decide (q % 2 = 0)) = false := (Bool.not_eq_true _).mp hu
  rw [if_neg hu, rtv_yes hq]
  refine fn_of Tryz.func106 rfl fun ww => ?_
  refine qV 25 (show (!(hi d == -9223372036854775808 && (lo d == 0 && true))) = true by assumption) ?_
  refine qF ent107 (hf) ?_
  refine qV 38 (show (hi r' == 0 && (lo r' == 0 && true)) = false by assumption) ?_
  refine qF ent67 (hn1) ?_
  refine qF ent67 (hn2) ?_
  refine qF ent109 (between_fn (q) (r) (D) (false) (by assumption) (by assumption) (by assumption)) ?_
  refine qF ent108 (up_f (mode) (false) (cmpI r (D - r)) (decide (q % 2 = 0)) (by assumption) (by assumption) (by assumption)) ?_
  exact qR Tryz.func106
theorem wcmp_c (n : Int) : Fn 55 [] [wv n, .agg #[.int .i64 4611686018427387904, .int .u64 0]] (.int .i64 (cmpI n 85070591730234615865843651857942052864)) := by
 have e : wv 85070591730234615865843651857942052864 = .agg #[.int .i64 4611686018427387904, .int .u64 0] := by rfl
 have := wcmp_fn n 85070591730234615865843651857942052864
 rw [e] at this
 exact this
theorem ext_b1 (n x mode : Int) (h1 : 1 ≤ mode) (h2 : mode ≤ 9) (hn : 0 ≤ hi n) (hx : cmpI n 85070591730234615865843651857942052864 = x) (x0 : -1 ≤ x) (x1 : x ≤ 1) :
  Fn 106 [] [wv n, wv (-170141183460469231731687303715884105728), .int .i64 mode] (if upB mode true (0 - x) false = true then .tuple #[zz, .int .i64 0] else .tuple #[wv (-1), .int .i64 0]) := by
 have hm := min_yes
 have hc : Fn 55 [] [wv n, .agg #[.int .i64 4611686018427387904, .int .u64 0]] (.int .i64 x) := hx ▸ wcmp_c n
 clear hx
 by_cases hu : upB mode true (0 - x) false = true
 ·rw [if_pos hu]
  refine fn_of Tryz.func106 rfl fun ww => ?_
  refine qY 70 (decide (hi n ≥ 0)) ?_
  refine qF ent55 (hc) ?_
  refine qI 86 (0 - x) ?_
  refine qF ent108 (up_t (mode) (true) (0 - x) (false) (by assumption) (by assumption) (by assumption)) ?_
  exact qR Tryz.func106
 ·have hu' : upB mode true (0 - x) false = false := (Bool.not_eq_true _).mp hu
  rw [if_neg hu]
  refine fn_of Tryz.func106 rfl fun ww => ?_
  refine qY 70 (decide (hi n ≥ 0)) ?_
  refine qF ent55 (hc) ?_
  refine qI 86 (0 - x) ?_
  refine qF ent108 (up_f (mode) (true) (0 - x) (false) (by assumption) (by assumption) (by assumption)) ?_
  refine qF ent30 (wof_fn (-1) (by (unfold I64; omega))) ?_
  exact qR Tryz.func106
theorem ext_b2 (n x mode : Int) (h1 : 1 ≤ mode) (h2 : mode ≤ 9) (hW : W128 n) (hW' : W128 (-n)) (hn : hi n < 0) (hx : cmpI (-n) 85070591730234615865843651857942052864 = x) :
  Fn 106 [] [wv n, wv (-170141183460469231731687303715884105728), .int .i64 mode] (if upB mode false x true = true then .tuple #[wv 1, .int .i64 0] else .tuple #[zz, .int .i64 0]) := by
 have hm := min_yes
 have hc : Fn 55 [] [wv (-n), .agg #[.int .i64 4611686018427387904, .int .u64 0]] (.int .i64 x) := hx ▸ wcmp_c (-n)
 clear hx
 by_cases hu : upB mode false x true = true
 ·rw [if_pos hu]
  refine fn_of Tryz.func106 rfl fun ww => ?_
  refine qN 70 (decide (hi n ≥ 0)) ?_
  refine qF ent67 (wneg_yes (n) (by assumption) (by assumption)) ?_
  refine qF ent55 (hc) ?_
  refine qF ent108 (up_t (mode) (false) (x) (true) (by assumption) (by assumption) (by assumption)) ?_
  refine qF ent30 (wof_fn (1) (by (unfold I64; omega))) ?_
  exact qR Tryz.func106
 ·have hu' : upB mode false x true = false := (Bool.not_eq_true _).mp hu
  rw [if_neg hu]
  refine fn_of Tryz.func106 rfl fun ww => ?_
  refine qN 70 (decide (hi n ≥ 0)) ?_
  refine qF ent67 (wneg_yes (n) (by assumption) (by assumption)) ?_
  refine qF ent55 (hc) ?_
  refine qF ent108 (up_f (mode) (false) (x) (true) (by assumption) (by assumption) (by assumption)) ?_
  exact qR Tryz.func106
end Go.Proofs.YthoedmikfpbfnaaGreat
end
section
/-
 The law RoundRatios: the plain law, and its end.
-/
set_option linter.unusedVariables false
set_option linter.unusedSimpArgs false
set_option maxRecDepth 100000
namespace Go.Proofs.YthoedmikfpbfnaaGreat
open Go Go.RowKit Go.Ev

theorem nearQ_scale {p q g mode : Int} (hg : 0 < g) (hq : 0 < q) : nearQ (g * p) (g * q) mode = nearQ p q mode := by
 have hgq : 0 < g * q := Int.mul_pos hg hq
 have e1 : (g * p).fdiv (g * q) = p.fdiv q := by
  rw [Int.fdiv_eq_ediv_of_nonneg _ (by omega), Int.fdiv_eq_ediv_of_nonneg _ (by omega), Int.mul_ediv_mul_of_pos _ _ hg]
 have e2 : (g * p).fmod (g * q) = g * p.fmod q := by
  rw [Int.fmod_eq_emod_of_nonneg _ (by omega), Int.fmod_eq_emod_of_nonneg _ (by omega), Int.mul_emod_mul_of_pos _ _ hg]
 have pos : ∀ x : Int, (g * x < 0 ↔ x < 0) := fun x => by
  constructor
  ·intro h
   apply Classical.byContradiction
   intro k
   have := Int.mul_nonneg (show 0 ≤ g by omega) (show 0 ≤ x by omega)
   omega
  ·intro h
   have := Int.mul_neg_of_pos_of_neg hg h
   exact this
 have zer : ∀ x : Int, (g * x = 0 ↔ x = 0) := fun x => by
  rw [Int.mul_eq_zero]; omega
 have e3 : ∀ a b : Int, cmpI (g * a) (g * b) = cmpI a b := fun a b => by
  have h1 : g * a < g * b ↔ a < b := by
   have := pos (a - b)
   rw [Int.mul_sub] at this
   omega
  have h2 : g * a = g * b ↔ a = b := by
   have := zer (a - b)
   rw [Int.mul_sub] at this
   omega
  unfold cmpI
  simp only [h1, h2]
 have e4 : decide (g * p < 0) = decide (p < 0) := by
  rw [Bool.eq_iff_iff]; simp only [decide_eq_true_eq]; exact pos p
 have hu : upQ (g * p) (g * q) mode = upQ p q mode := by
  unfold upQ
  rw [e1, e2, e4, ← Int.mul_sub, e3]
 unfold nearQ
 rw [hu, e1, e2]
 by_cases k : p.fmod q = 0
 ·rw [if_pos k, if_pos ((zer _).2 k)]
 ·rw [if_neg k, if_neg fun h => k ((zer _).1 h)]
theorem fr_scale (n : Int) {d : Int} (h0 : d ≠ 0) : ∃ G X Y : Nat, G = Nat.gcd n.natAbs d.natAbs ∧ 0 < G ∧ n.natAbs = G * X ∧ d.natAbs = G * Y ∧ 0 < Y ∧ frP n d = wsg (!(decide (n < 0) == decide (d < 0))) (X : Int) ∧ frQ n d = (Y : Int) := by
 have hG : 0 < Nat.gcd n.natAbs d.natAbs := gcd_pos h0
 have h1 := Nat.mul_div_cancel' (Nat.gcd_dvd_left n.natAbs d.natAbs)
 have h2 := Nat.mul_div_cancel' (Nat.gcd_dvd_right n.natAbs d.natAbs)
 refine ⟨_, n.natAbs / Nat.gcd n.natAbs d.natAbs, d.natAbs / Nat.gcd n.natAbs d.natAbs, rfl, hG, h1.symm, h2.symm, ?_, rfl, rfl⟩
 rcases Nat.eq_zero_or_pos (d.natAbs / Nat.gcd n.natAbs d.natAbs) with h | h
 ·rw [h] at h2; omega
 ·exact h
theorem near_fr (n mode : Int) {d : Int} (h0 : d ≠ 0) : nearQ (nN n d) (nD d) mode = nearQ (frP n d) (frQ n d) mode := by
 obtain ⟨G, X, Y, -, hG, hX, hY, hYp, hP, hQ⟩ := fr_scale n h0
 have a1 : (n.natAbs : Int) = (G : Int) * (X : Int) := by rw [hX]; simp
 have a2 : (d.natAbs : Int) = (G : Int) * (Y : Int) := by rw [hY]; simp
 have b1 : nN n d = (G : Int) * frP n d := by
  rw [hP]
  unfold nN wsg
  by_cases hn : n < 0 <;> by_cases hd : d < 0 <;> simp [hn, hd, Int.mul_neg] <;> omega
 have b2 : nD d = (G : Int) * frQ n d := by
  rw [hQ]; unfold nD; split <;> omega
 rw [b1, b2]
 exact nearQ_scale (by omega) (by rw [hQ]; omega)
theorem rtv0 : rtv 0 = .tuple #[zz, .int .i64 0] := rtv_yes (by unfold W128; omega)
theorem rtv_no {y : Int} (h : ¬ W128 y) : rtv y = .tuple #[zz, .int .i64 2] := by unfold rtv; rw [thi_no h, tlo_no h, ter_no h]
theorem small_pos {m D mode : Int} (h0 : 0 < m) (h1 : m < D) : nearQ m D mode = if upB mode false (cmpI m (D - m)) true = true then 1 else 0 := by
 have e1 : m.fdiv D = 0 := by rw [Int.fdiv_eq_ediv_of_nonneg _ (by omega), Int.ediv_eq_zero_of_lt (by omega) h1]
 have e2 : m.fmod D = m := by rw [Int.fmod_eq_emod_of_nonneg _ (by omega), Int.emod_eq_of_lt (by omega) h1]
 unfold nearQ upQ
 rw [e1, e2, if_neg (by omega), decide_eq_false (by omega)]
 rfl
theorem small_neg {m D mode : Int} (h0 : 0 < m) (h1 : m < D) : nearQ (-m) D mode = if upB mode true (cmpI (D - m) m) false = true then 0 else -1 := by
 have q : -m = (D - m) + D * (-1) := by omega
 have e1 : (-m).fdiv D = -1 := by rw [Int.fdiv_eq_ediv_of_nonneg _ (by omega), q, Int.add_mul_ediv_left _ _ (by omega), Int.ediv_eq_zero_of_lt (by omega) (by omega)]; rfl
 have e2 : (-m).fmod D = D - m := by rw [Int.fmod_eq_emod_of_nonneg _ (by omega), q, Int.add_mul_emod_self_left, Int.emod_eq_of_lt (by omega) (by omega)]
 unfold nearQ upQ
 rw [e1, e2, if_neg (by omega), decide_eq_true (by omega), show D - (D - m) = m by omega]
 rfl
theorem fr_over {n d : Int} (hn : W128 n) (hd : W128 d) (h0 : d ≠ 0) (h : ¬ fOk n d) :
  (d = -170141183460469231731687303715884105728 ∧ n ≠ 0 ∧ -170141183460469231731687303715884105728 < n) ∨
  (n = -170141183460469231731687303715884105728 ∧ d < 0 ∧ -170141183460469231731687303715884105728 < d ∧ Nat.gcd n.natAbs d.natAbs = 1) := by
 obtain ⟨G, X, Y, hG, hG0, hX, hY, hYp, hP, hQ⟩ := fr_scale n h0
 have hXle : X ≤ n.natAbs := by rw [hX]; exact Nat.le_mul_of_pos_left X hG0
 have hYle : Y ≤ d.natAbs := by rw [hY]; exact Nat.le_mul_of_pos_left Y hG0
 by_cases hq : W128 (frQ n d)
 ·right
  have hp : ¬ W128 (frP n d) := fun k => h ⟨h0, k, hq⟩
  rw [hP] at hp
  have hXm : X = 170141183460469231731687303715884105728 ∧ (decide (n < 0) == decide (d < 0)) = true := by
   unfold wsg at hp
   cases hs : (decide (n < 0) == decide (d < 0)) with
   | true => rw [hs] at hp; simp at hp; unfold W128 at *; exact ⟨by omega, rfl⟩
   | false => rw [hs] at hp; simp at hp; unfold W128 at *; omega
  obtain ⟨hXm, hs⟩ := hXm
  have hnm : n = -170141183460469231731687303715884105728 := by unfold W128 at hn; omega
  have hG1 : G = 1 := by
   have e1 : n.natAbs = X := by rw [hXm]; unfold W128 at hn; omega
   have e2 : X * 1 = X * G := by rw [Nat.mul_one, Nat.mul_comm X G, ← hX]; exact e1.symm
   exact (Nat.eq_of_mul_eq_mul_left (by omega) e2).symm
  have hdn : d < 0 := by
   rw [decide_eq_true (show n < 0 by omega)] at hs
   simpa using hs
  refine ⟨hnm, hdn, ?_, by rw [← hG, hG1]⟩
  have hYd : d.natAbs = Y := by rw [hY, hG1, Nat.one_mul]
  rw [hQ] at hq
  unfold W128 at hq
  omega
 ·left
  rw [hQ] at hq
  have hYm : Y = 170141183460469231731687303715884105728 := by unfold W128 at *; omega
  have hdm : d.natAbs = Y := by unfold W128 at hd; omega
  have hG1 : G = 1 := by
   have e2 : Y * 1 = Y * G := by rw [Nat.mul_one, Nat.mul_comm Y G, ← hY]; exact hdm.symm
   exact (Nat.eq_of_mul_eq_mul_left (by omega) e2).symm
  have hd1 : d = -170141183460469231731687303715884105728 := by unfold W128 at hd; omega
  have hg : Nat.gcd n.natAbs d.natAbs = 1 := by rw [← hG, hG1]
  refine ⟨hd1, fun e => ?_, ?_⟩
  ·subst e; rw [show (0 : Int).natAbs = 0 from rfl, Nat.gcd_zero_left] at hg; omega
  ·apply Classical.byContradiction
   intro k
   have : n = d := by unfold W128 at hn; omega
   rw [this, Nat.gcd_self] at hg
   omega
theorem frac_f (n d : Int) (hn : W128 n) (hd : W128 d) (hk : fOk n d) : Fn 41 [] [wv n, wv d] (.tuple #[wv (frP n d), wv (frQ n d), .int .i64 0]) := fun w _ =>
 (dfrac_any n d w hn hd).mono fun e w' ⟨h1, h2⟩ => ⟨by rw [h1, fv_yes hk, fv_yes hk, fv_yes hk, fv_yes hk, fe_yes hk], h2⟩
theorem frac_n (n d : Int) (hn : W128 n) (hd : W128 d) (h0 : d ≠ 0) (hk : ¬ fOk n d) : Fn 41 [] [wv n, wv d] (.tuple #[zz, zz, .int .i64 2]) := fun w _ =>
 (dfrac_any n d w hn hd).mono fun e w' ⟨h1, h2⟩ => ⟨by rw [h1, fv_no hk, fv_no hk, fv_no hk, fv_no hk, fe_no h0 hk], h2⟩
end Go.Proofs.YthoedmikfpbfnaaGreat
end
