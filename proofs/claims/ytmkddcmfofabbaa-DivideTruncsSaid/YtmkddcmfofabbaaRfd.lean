/-
  divide.over for every divisor; Trunc and Floor for every two numbers.
-/
import Derived.Test.YtmkddcmfofabbaaRfc
import Derived.Test.YtmkddcmfofabbaaDve
namespace Go.Proofs.Ytmkddcmfofabbaa
open Go Go.RowKit

theorem over_any {b d : Int} (hb : U128 b) (d0 : 0 < d) (d1 : d ≤ 170141183460469231731687303715884105728) : OverC b d := by
  intro w
  by_cases h : d < 18446744073709551616
  · exact over_small b d w hb d0 h
  · exact over_great b d w hb (by omega) d1
theorem magW_le {n : Int} (h : W128 n) : mag n ≤ 170141183460469231731687303715884105728 := by unfold W128 at h; unfold mag; split <;> omega
theorem trunc_any {a b : Int} (ha : W128 a) (hb : W128 b) (h0 : b ≠ 0) : Trunc3 a b := fun w =>
  dtrunc a b w ha hb h0 (over_any (mag_U ha) (mag_zero h0) (magW_le hb))
theorem overTo_all {M : Nat} (h : M ≤ 170141183460469231731687303715884105728) : OverTo M := fun b d hb d0 hd =>
  over_any (by unfold U128; omega) (by omega) (by omega)
/-- A quotient and a rest, or none: by 0, or where there is no room. -/
def z0 (b x : Int) : Int := if b = 0 then 0 else x
def er (b q : Int) : Int := if b = 0 then 3 else ter q
def RetF (w : World) (b q r : Int) (e : Ending) (w' : World) : Prop :=
  e = .returned (.tuple #[.agg #[.int .i64 (z0 b (thi q)), .int .u64 (z0 b (tlo q))], .agg #[.int .i64 (z0 b (qh q r)), .int .u64 (z0 b (ql q r))], .int .i64 (er b q)]) ∧ Ext w w'
theorem retF_q {w w' : World} {b q r : Int} {e : Ending} (h0 : b ≠ 0) (h : RetQ w q r e w') : RetF w b q r e w' := by
  unfold RetF z0 er
  simp only [if_neg h0]
  exact h
theorem retF_0 {w w' : World} {q r : Int} (x : Ext w w') : RetF w 0 q r (.returned (.tuple #[.agg #[.int .i64 0, .int .u64 0], .agg #[.int .i64 0, .int .u64 0], .int .i64 3])) w' := by
  unfold RetF z0 er
  refine ⟨?_, x⟩
  rfl
set_option maxRecDepth 100000 in
set_option maxHeartbeats 1600000 in
theorem dtrunc0 (a : Int) (w : World) (q r : Int) :
    Calls Try.prog 59 #[.agg #[.int .i64 (hi a), .int .u64 (lo a)], .agg #[.int .i64 0, .int .u64 0]] w (RetF w 0 q r) := by
  go_enter Try.func59, Try.ntmps59
  go_wp2_with fail
  refine bodyPost_ret (v := .tuple #[.agg #[.int .i64 0, .int .u64 0], .agg #[.int .i64 0, .int .u64 0], .int .i64 3]) (by simp [results, Try.results59, go_sem]) rfl (retF_0 (by repeat (first | exact Ext.refl _ | refine Ext.alloc ?_ | refine Ext.drew ?_ | refine Ext.drewN ?_ | refine Ext.set ?_ (Ext.size ?_) | refine Ext.set ?_ (Ext.size1 ?_) | refine Ext.set ?_ (Ext.size2 ?_) | refine Ext.trans ?_ (by assumption))))
set_option maxRecDepth 100000 in
set_option maxHeartbeats 1600000 in
theorem dfloor0 (a : Int) (w : World) (q r : Int) :
    Calls Try.prog 56 #[.agg #[.int .i64 (hi a), .int .u64 (lo a)], .agg #[.int .i64 0, .int .u64 0]] w (RetF w 0 q r) := by
  have H1 := Lib.hid dtrunc0
  go_enter Try.func56, Try.ntmps56
  go_wp2_with fail
  obtain ⟨W, hW⟩ : ∃ W, W = (((w.alloc (.cells #[.int .i64 (hi a), .int .u64 (lo a)] 26)).alloc (.cells #[.int .i64 0, .int .u64 0] 26)).alloc (.cells #[.int .i64 0, .int .u64 0] 26)).alloc (.cells #[.int .i64 0, .int .u64 0] 26) := ⟨_, rfl⟩
  rw [← hW]
  have hR : Box2 W (w.heap.size + 1 + 1) (.int .i64 0) (.int .u64 0) 26 := by rw [hW]; exact (Box2.new (by simp)).alloc _
  have hS : Box2 W (w.heap.size + 1 + 1 + 1) (.int .i64 0) (.int .u64 0) 26 := by rw [hW]; exact Box2.new (by simp)
  have xw : Ext w W := by rw [hW]; exact (Ext.refl w).alloc.alloc.alloc.alloc
  clear hW
  refine (H1.out a _ q r).mono ?_
  rintro e w1 ⟨rfl, x1⟩
  (first | replace xw := Ext.trans xw x1 | replace xw := Ext.trans (Ext.alloc xw) x1 | replace xw := Ext.trans (Ext.drew xw) x1 | replace xw := Ext.trans (Ext.alloc (Ext.drew xw)) x1); (first | replace hR := hR.ext x1 | replace hR := (hR.alloc _).ext x1 | replace hR := hR.drew.ext x1 | replace hR := (hR.drew.alloc _).ext x1); (first | replace hS := hS.ext x1 | replace hS := (hS.alloc _).ext x1 | replace hS := hS.drew.ext x1 | replace hS := (hS.drew.alloc _).ext x1)
  replace hR := (hR.alloc (.cells #[.int .i64 0, .int .u64 0] 26)).alloc (.cells #[.int .i64 0, .int .u64 0] 26)
  replace hS := (hS.alloc (.cells #[.int .i64 0, .int .u64 0] 26)).alloc (.cells #[.int .i64 0, .int .u64 0] 26)
  have g1 : z0 0 (thi q) = 0 := rfl
  have g2 : z0 0 (tlo q) = 0 := rfl
  have g3 : z0 0 (qh q r) = 0 := rfl
  have g4 : z0 0 (ql q r) = 0 := rfl
  have g5 : er 0 q = 3 := rfl
  rw [g1, g2, g3, g4, g5]
  have hR_0 := hR.c0; have hR_1 := hR.c1; have hS_0 := hS.c0; have hS_1 := hS.c1
  have hR_2 := hR.f0; have hR_3 := hR.f1; have hS_2 := hS.f0; have hS_3 := hS.f1
  go_wp2_with fail
  refine bodyPost_ret (v := .tuple #[.agg #[.int .i64 0, .int .u64 0], .agg #[.int .i64 0, .int .u64 0], .int .i64 3]) (by simp [results, Try.results56, go_sem, hR_0, hR_1, hS_0, hS_1]) rfl (retF_0 ?_)
  exact Ext.set (Ext.set (Ext.set (Ext.set (Ext.alloc (Ext.alloc xw)) (by omega)) (by omega)) (by omega)) (by omega)
theorem dtrunc_any (a b : Int) (w : World) (ha : W128 a) (hb : W128 b) :
    Calls Try.prog 59 #[.agg #[.int .i64 (hi a), .int .u64 (lo a)], .agg #[.int .i64 (hi b), .int .u64 (lo b)]] w (RetF w b (a.tdiv b) (a.tmod b)) := by
  by_cases h0 : b = 0
  · subst h0; exact dtrunc0 a w _ _
  · exact (trunc_any ha hb h0 w).mono fun e w' h => retF_q h0 h
theorem dfloor_any (a b : Int) (w : World) (ha : W128 a) (hb : W128 b) :
    Calls Try.prog 56 #[.agg #[.int .i64 (hi a), .int .u64 (lo a)], .agg #[.int .i64 (hi b), .int .u64 (lo b)]] w (RetF w b (a.fdiv b) (a.fmod b)) := by
  by_cases h0 : b = 0
  · subst h0; exact dfloor0 a w _ _
  · exact (dfloor a b w ha hb h0 (trunc_any ha hb h0)).mono fun e w' h => retF_q h0 h
end Go.Proofs.Ytmkddcmfofabbaa
