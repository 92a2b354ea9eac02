/-
  divide.Fraction.
-/
import Derived.Test.YtcndfpfjckkinaaGh
import Derived.Test.YtcndfpfjckkinaaGg
set_option linter.unusedSimpArgs false
set_option linter.unusedVariables false
namespace Go.Proofs.Ytcndfpfjckkinaa
open Go Go.RowKit

theorem frP_bits {K : Nat} {n d : Int} (h : Bits K n) : Bits K (frP n d) := by
  refine h.le ?_
  unfold frP wsg
  have := Nat.div_le_self n.natAbs (Nat.gcd n.natAbs d.natAbs)
  generalize n.natAbs / Nat.gcd n.natAbs d.natAbs = X at *
  split <;> omega
theorem frQ_bits {K : Nat} {n d : Int} (h : Bits K d) : Bits K (frQ n d) := by
  refine h.le ?_
  unfold frQ
  have := Nat.div_le_self d.natAbs (Nat.gcd n.natAbs d.natAbs)
  generalize d.natAbs / Nat.gcd n.natAbs d.natAbs = X at *
  omega
/-- The fraction has room. -/
def fOk (n d : Int) : Prop := d ≠ 0 ∧ W128 (frP n d) ∧ W128 (frQ n d)
instance (n d : Int) : Decidable (fOk n d) := by unfold fOk; exact inferInstance
def fv (n d x : Int) : Int := if fOk n d then x else 0
def fe (n d : Int) : Int := if d = 0 then 3 else if fOk n d then 0 else 2
def RetFr (w : World) (n d : Int) (e : Ending) (w' : World) : Prop :=
  e = .returned (.tuple #[.agg #[.int .i64 (fv n d (hi (frP n d))), .int .u64 (fv n d (lo (frP n d)))], .agg #[.int .i64 (fv n d (hi (frQ n d))), .int .u64 (fv n d (lo (frQ n d)))], .int .i64 (fe n d)]) ∧ Ext w w'
theorem fv_yes {n d x : Int} (h : fOk n d) : fv n d x = x := if_pos h
theorem fv_no {n d x : Int} (h : ¬ fOk n d) : fv n d x = 0 := if_neg h
theorem fe_yes {n d : Int} (h : fOk n d) : fe n d = 0 := by unfold fe; rw [if_neg h.1, if_pos h]
theorem fe_zero (n : Int) : fe n 0 = 3 := if_pos rfl
theorem fe_no {n d : Int} (h0 : d ≠ 0) (h : ¬ fOk n d) : fe n d = 2 := by unfold fe; rw [if_neg h0, if_neg h]
theorem retFr_yes {w w' : World} {n d : Int} (h : fOk n d) (x : Ext w w') : RetFr w n d (.returned (.tuple #[.agg #[.int .i64 (hi (frP n d)), .int .u64 (lo (frP n d))], .agg #[.int .i64 (hi (frQ n d)), .int .u64 (lo (frQ n d))], .int .i64 0])) w' := by
  refine ⟨?_, x⟩
  rw [fv_yes h, fv_yes h, fv_yes h, fv_yes h, fe_yes h]
theorem retFr_no {w w' : World} {n d : Int} (h0 : d ≠ 0) (h : ¬ fOk n d) (x : Ext w w') : RetFr w n d (.returned (.tuple #[.agg #[.int .i64 0, .int .u64 0], .agg #[.int .i64 0, .int .u64 0], .int .i64 2])) w' := by
  refine ⟨?_, x⟩
  rw [fv_no h, fv_no h, fv_no h, fv_no h, fe_no h0 h]
theorem retFr_zero {w w' : World} {n : Int} (x : Ext w w') : RetFr w n 0 (.returned (.tuple #[.agg #[.int .i64 0, .int .u64 0], .agg #[.int .i64 0, .int .u64 0], .int .i64 3])) w' := by
  refine ⟨?_, x⟩
  have h : ¬ fOk n 0 := fun h => h.1 rfl
  rw [fv_no h, fv_no h, fv_no h, fv_no h, fe_zero]
set_option maxRecDepth 100000 in
set_option maxHeartbeats 3200000 in
theorem dfrac0 (n : Int) (w : World) :
    Calls Try.prog 172 #[.agg #[.int .i64 (hi n), .int .u64 (lo n)], .agg #[.int .i64 0, .int .u64 0]] w (RetFr w n 0) := by
  go_enter Try.func172, Try.ntmps172
  go_upto_region 1 with fail
  have xw := Ext.refl w
  refine wp_name ?_
  intro V1 hV
  replace xw : Ext w V1 := by rw [hV]; exact Ext.alloc (Ext.alloc (Ext.alloc (Ext.alloc (xw))))
  have b2 : Box2 V1 w.heap.size (.int .i64 (hi n)) (.int .u64 (lo n)) 38 := by rw [hV]; exact (((Box2.new rfl).alloc _).alloc _).alloc _
  have b3 : Box2 V1 (w.heap.size + 1) (.int .i64 0) (.int .u64 0) 38 := by rw [hV]; exact ((Box2.new (by simp)).alloc _).alloc _
  have b4 : Box2 V1 (w.heap.size + 1 + 1) (.int .i64 0) (.int .u64 0) 38 := by rw [hV]; exact (Box2.new (by simp)).alloc _
  have b5 : Box2 V1 (w.heap.size + 1 + 1 + 1) (.int .i64 0) (.int .u64 0) 38 := by rw [hV]; exact Box2.new (by simp)
  clear hV
  have b3_c0 := b3.c0
  have b3_c1 := b3.c1
  go_upto_region 2 with fail
  clear b3_c0 b3_c1
  have b4_c0 := b4.c0
  have b4_c1 := b4.c1
  have b4_f0 := b4.f0
  have b4_f1 := b4.f1
  have b5_c0 := b5.c0
  have b5_c1 := b5.c1
  have b5_f0 := b5.f0
  have b5_f1 := b5.f1
  have xr := Ext.set (Ext.set (Ext.set (Ext.set (xw) (k := w.heap.size + 1 + 1) (o := 0) (u := .int .i64 0) (by omega)) (k := w.heap.size + 1 + 1) (o := 1) (u := .int .u64 0) (by omega)) (k := w.heap.size + 1 + 1 + 1) (o := 0) (u := .int .i64 0) (by omega)) (k := w.heap.size + 1 + 1 + 1) (o := 1) (u := .int .u64 0) (by omega)
  go_wp2_with fail
  refine bodyPost_ret (v := .tuple #[.agg #[.int .i64 0, .int .u64 0], .agg #[.int .i64 0, .int .u64 0], .int .i64 3]) (by simp [results, Try.results172, go_sem, b4_c0, b4_c1, b5_c0, b5_c1]) rfl (retFr_zero xr)
set_option maxRecDepth 100000 in
set_option maxHeartbeats 3200000 in
theorem dfrac_yes (n d : Int) (w : World) (hn : W128 n) (hd : W128 d) (h0 : d ≠ 0) (hP : W128 (frP n d)) (hQ : W128 (frQ n d)) :
    Calls Try.prog 172 #[.agg #[.int .i64 (hi n), .int .u64 (lo n)], .agg #[.int .i64 (hi d), .int .u64 (lo d)]] w (RetFr w n d) := by
  have HPar := Lib.hid dparts
  have HGc := Lib.hid dgcd
  have HSgd := Lib.hid dsigned
  have HOT := Lib.hid (overTo_all (M := 170141183460469231731687303715884105728) (Nat.le_refl _))
  have HBd := Lib.hid (show n.natAbs ≤ 170141183460469231731687303715884105728 ∧ d.natAbs ≤ 170141183460469231731687303715884105728 by unfold W128 at hn hd; omega)
  obtain ⟨A, hA⟩ : ∃ A : Nat, A = n.natAbs := ⟨_, rfl⟩
  obtain ⟨D, hD⟩ : ∃ D : Nat, D = d.natAbs := ⟨_, rfl⟩
  obtain ⟨G, hG⟩ : ∃ G : Nat, G = Nat.gcd A D := ⟨_, rfl⟩
  obtain ⟨X, hX⟩ : ∃ X : Nat, X = A / G := ⟨_, rfl⟩
  obtain ⟨Y, hY⟩ : ∃ Y : Nat, Y = D / G := ⟨_, rfl⟩
  have hg : 0 < G := by rw [hG, hA, hD]; exact gcd_pos h0
  have hg2 : G ≤ D := by rw [hG]; exact Nat.gcd_le_right _ (by omega)
  rw [← hA, ← hD] at HBd
  have HA := Lib.hid (show mag n = (A : Int) by rw [hA]; exact mag_abs n)
  have HD := Lib.hid (show mag d = (D : Int) by rw [hD]; exact mag_abs d)
  have HG := Lib.hid (show ((Nat.gcd A D : Nat) : Int) = (G : Int) by rw [hG])
  have HO1 := Lib.hid (show OverC (A : Int) (G : Int) from HOT.out A G HBd.out.1 hg (Nat.le_trans hg2 HBd.out.2))
  have HO2 := Lib.hid (show OverC (D : Int) (G : Int) from HOT.out D G HBd.out.2 hg (Nat.le_trans hg2 HBd.out.2))
  have HX := Lib.hid (show (A : Int) / (G : Int) = (X : Int) by rw [hX]; omega)
  have HY := Lib.hid (show (D : Int) / (G : Int) = (Y : Int) by rw [hY]; omega)
  have HUX := Lib.hid (show U128 (X : Int) by have := Nat.div_le_self A G; have := HBd.out.1; unfold U128; omega)
  have HUY := Lib.hid (show U128 (Y : Int) by have := Nat.div_le_self D G; have := HBd.out.2; unfold U128; omega)
  have HP := Lib.hid (show wsg (!(decide (n < 0) == decide (d < 0))) (X : Int) = frP n d by unfold frP; rw [hX, hG, hA, hD])
  have HQ := Lib.hid (show wsg false (Y : Int) = frQ n d by unfold frQ; rw [hY, hG, hA, hD]; rfl)
  obtain ⟨r1, e1⟩ : ∃ r, (A : Int) % (G : Int) = r := ⟨_, rfl⟩
  obtain ⟨r2, e2⟩ : ∃ r, (D : Int) % (G : Int) = r := ⟨_, rfl⟩
  have HR1 := Lib.hid e1
  have HR2 := Lib.hid e2
  obtain ⟨t1, e3⟩ : ∃ r, thi (frQ n d) = r := ⟨_, rfl⟩
  obtain ⟨t2, e4⟩ : ∃ r, tlo (frQ n d) = r := ⟨_, rfl⟩
  obtain ⟨t3, e5⟩ : ∃ r, ter (frQ n d) = r := ⟨_, rfl⟩
  have HT1 := Lib.hid e3
  have HT2 := Lib.hid e4
  have HT3 := Lib.hid e5
  have H0 := Lib.hid h0
  have hz : ¬ (hi d = 0 ∧ lo d = 0) := by rintro ⟨g1, g2⟩; have := hi_lo d; omega
  clear hA hD hG hX hY e1 e2 e3 e4 e5 h0 hg hg2
  by_cases hz1 : hi d = 0
  · have g1 : (hi d == 0) = true := by simpa using hz1
    have g2 : (lo d == 0) = false := by simpa using fun h => hz ⟨hz1, h⟩
    clear hz hz1
    go_enter Try.func172, Try.ntmps172
    go_upto_region 1 with fail
    have xw := Ext.refl w
    refine wp_name ?_
    intro V1 hV
    replace xw : Ext w V1 := by rw [hV]; exact Ext.alloc (Ext.alloc (Ext.alloc (Ext.alloc (xw))))
    have b2 : Box2 V1 w.heap.size (.int .i64 (hi n)) (.int .u64 (lo n)) 38 := by rw [hV]; exact (((Box2.new rfl).alloc _).alloc _).alloc _
    have b3 : Box2 V1 (w.heap.size + 1) (.int .i64 (hi d)) (.int .u64 (lo d)) 38 := by rw [hV]; exact ((Box2.new (by simp)).alloc _).alloc _
    have b4 : Box2 V1 (w.heap.size + 1 + 1) (.int .i64 0) (.int .u64 0) 38 := by rw [hV]; exact (Box2.new (by simp)).alloc _
    have b5 : Box2 V1 (w.heap.size + 1 + 1 + 1) (.int .i64 0) (.int .u64 0) 38 := by rw [hV]; exact Box2.new (by simp)
    clear hV
    have b3_c0 := b3.c0
    have b3_c1 := b3.c1
    go_upto_region 3 with fail
    clear b3_c0 b3_c1
    have b2_c0 := b2.c0
    have b2_c1 := b2.c1
    go_wp2_with fail
    refine (HPar.out n _ hn).mono ?_
    rw [HA.out]
    rintro e w2 ⟨rfl, x2⟩
    clear b2_c0 b2_c1
    replace b2 := b2.ext x2
    replace b3 := b3.ext x2
    replace b4 := b4.ext x2
    replace b5 := b5.ext x2
    replace xw := Ext.trans xw x2
    go_upto_region 4 with fail
    have o4 := b2.kind.lt
    have o5 := b3.kind.lt
    have o6 := b4.kind.lt
    have o7 := b5.kind.lt
    have o8 := xw.size
    refine wp_name ?_
    intro V3 hV
    have b2N : Box2 V3 w.heap.size (.int .i64 (hi n)) (.int .u64 (lo n)) 38 := by rw [hV]; exact (b2).alloc _
    have b3N : Box2 V3 (w.heap.size + 1) (.int .i64 (hi d)) (.int .u64 (lo d)) 38 := by rw [hV]; exact (b3).alloc _
    have b4N : Box2 V3 (w.heap.size + 1 + 1) (.int .i64 0) (.int .u64 0) 38 := by rw [hV]; exact (b4).alloc _
    have b5N : Box2 V3 (w.heap.size + 1 + 1 + 1) (.int .i64 0) (.int .u64 0) 38 := by rw [hV]; exact (b5).alloc _
    replace xw : Ext w V3 := by rw [hV]; exact Ext.alloc (xw)
    replace b2 := b2N; clear b2N
    replace b3 := b3N; clear b3N
    replace b4 := b4N; clear b4N
    replace b5 := b5N; clear b5N
    have b7 : Box2 V3 w2.heap.size (.int .u64 (hi (A : Int))) (.int .u64 (lo (A : Int))) 213 := by rw [hV]; exact Box2.new rfl
    clear hV
    have b3_c0 := b3.c0
    have b3_c1 := b3.c1
    go_wp2_with fail
    refine (HPar.out d _ hd).mono ?_
    rw [HD.out]
    rintro e w9 ⟨rfl, x9⟩
    clear b3_c0 b3_c1
    replace b2 := b2.ext x9
    replace b3 := b3.ext x9
    replace b4 := b4.ext x9
    replace b5 := b5.ext x9
    replace b7 := b7.ext x9
    replace xw := Ext.trans xw x9
    go_upto_region 5 with fail
    have o11 := b7.kind.lt
    have o12 := xw.size
    refine wp_name ?_
    intro V10 hV
    have b2N : Box2 V10 w.heap.size (.int .i64 (hi n)) (.int .u64 (lo n)) 38 := by rw [hV]; exact (b2).alloc _
    have b3N : Box2 V10 (w.heap.size + 1) (.int .i64 (hi d)) (.int .u64 (lo d)) 38 := by rw [hV]; exact (b3).alloc _
    have b4N : Box2 V10 (w.heap.size + 1 + 1) (.int .i64 0) (.int .u64 0) 38 := by rw [hV]; exact (b4).alloc _
    have b5N : Box2 V10 (w.heap.size + 1 + 1 + 1) (.int .i64 0) (.int .u64 0) 38 := by rw [hV]; exact (b5).alloc _
    have b7N : Box2 V10 w2.heap.size (.int .u64 (hi (A : Int))) (.int .u64 (lo (A : Int))) 213 := by rw [hV]; exact (b7).alloc _
    replace xw : Ext w V10 := by rw [hV]; exact Ext.alloc (xw)
    replace b2 := b2N; clear b2N
    replace b3 := b3N; clear b3N
    replace b4 := b4N; clear b4N
    replace b5 := b5N; clear b5N
    replace b7 := b7N; clear b7N
    have b9 : Box2 V10 w9.heap.size (.int .u64 (hi (D : Int))) (.int .u64 (lo (D : Int))) 213 := by rw [hV]; exact Box2.new rfl
    clear hV
    have b7_c0 := b7.c0
    have b7_c1 := b7.c1
    have b9_c0 := b9.c0
    have b9_c1 := b9.c1
    go_wp2_with fail
    refine (HGc.out 170141183460469231731687303715884105728 A D _ HBd.out.1 HBd.out.2 HOT.out).mono ?_
    rw [HG.out]
    rintro e w13 ⟨rfl, x13⟩
    clear b7_c0 b7_c1 b9_c0 b9_c1
    replace b2 := b2.ext x13
    replace b3 := b3.ext x13
    replace b4 := b4.ext x13
    replace b5 := b5.ext x13
    replace b7 := b7.ext x13
    replace b9 := b9.ext x13
    replace xw := Ext.trans xw x13
    go_upto_region 6 with fail
    have o15 := b9.kind.lt
    have o16 := xw.size
    refine wp_name ?_
    intro V14 hV
    have b2N : Box2 V14 w.heap.size (.int .i64 (hi n)) (.int .u64 (lo n)) 38 := by rw [hV]; exact (b2).alloc _
    have b3N : Box2 V14 (w.heap.size + 1) (.int .i64 (hi d)) (.int .u64 (lo d)) 38 := by rw [hV]; exact (b3).alloc _
    have b4N : Box2 V14 (w.heap.size + 1 + 1) (.int .i64 0) (.int .u64 0) 38 := by rw [hV]; exact (b4).alloc _
    have b5N : Box2 V14 (w.heap.size + 1 + 1 + 1) (.int .i64 0) (.int .u64 0) 38 := by rw [hV]; exact (b5).alloc _
    have b7N : Box2 V14 w2.heap.size (.int .u64 (hi (A : Int))) (.int .u64 (lo (A : Int))) 213 := by rw [hV]; exact (b7).alloc _
    have b9N : Box2 V14 w9.heap.size (.int .u64 (hi (D : Int))) (.int .u64 (lo (D : Int))) 213 := by rw [hV]; exact (b9).alloc _
    replace xw : Ext w V14 := by rw [hV]; exact Ext.alloc (xw)
    replace b2 := b2N; clear b2N
    replace b3 := b3N; clear b3N
    replace b4 := b4N; clear b4N
    replace b5 := b5N; clear b5N
    replace b7 := b7N; clear b7N
    replace b9 := b9N; clear b9N
    have b11 : Box2 V14 w13.heap.size (.int .u64 (hi (G : Int))) (.int .u64 (lo (G : Int))) 213 := by rw [hV]; exact Box2.new rfl
    clear hV
    have b7_c0 := b7.c0
    have b7_c1 := b7.c1
    have b11_c0 := b11.c0
    have b11_c1 := b11.c1
    go_wp2_with fail
    refine (HO1.out _).mono ?_
    rw [HX.out, HR1.out]
    rintro e w17 ⟨rfl, x17⟩
    clear b7_c0 b7_c1 b11_c0 b11_c1
    replace b2 := b2.ext x17
    replace b3 := b3.ext x17
    replace b4 := b4.ext x17
    replace b5 := b5.ext x17
    replace b7 := b7.ext x17
    replace b9 := b9.ext x17
    replace b11 := b11.ext x17
    replace xw := Ext.trans xw x17
    have b7_c0 := b7.c0
    have b7_c1 := b7.c1
    have b7_f0 := b7.f0
    have b7_f1 := b7.f1
    go_upto_region 7 with fail
    clear b7_c0 b7_c1 b7_f0 b7_f1
    refine wp_name ?_
    intro V18 hV
    have b2N : Box2 V18 w.heap.size (.int .i64 (hi n)) (.int .u64 (lo n)) 38 := by rw [hV]; exact ((b2).other (b := w2.heap.size) (by omega) 0 (.int .u64 (hi (X : Int)))).other (b := w2.heap.size) (by omega) 1 (.int .u64 (lo (X : Int)))
    have b3N : Box2 V18 (w.heap.size + 1) (.int .i64 (hi d)) (.int .u64 (lo d)) 38 := by rw [hV]; exact ((b3).other (b := w2.heap.size) (by omega) 0 (.int .u64 (hi (X : Int)))).other (b := w2.heap.size) (by omega) 1 (.int .u64 (lo (X : Int)))
    have b4N : Box2 V18 (w.heap.size + 1 + 1) (.int .i64 0) (.int .u64 0) 38 := by rw [hV]; exact ((b4).other (b := w2.heap.size) (by omega) 0 (.int .u64 (hi (X : Int)))).other (b := w2.heap.size) (by omega) 1 (.int .u64 (lo (X : Int)))
    have b5N : Box2 V18 (w.heap.size + 1 + 1 + 1) (.int .i64 0) (.int .u64 0) 38 := by rw [hV]; exact ((b5).other (b := w2.heap.size) (by omega) 0 (.int .u64 (hi (X : Int)))).other (b := w2.heap.size) (by omega) 1 (.int .u64 (lo (X : Int)))
    have b7N : Box2 V18 w2.heap.size (.int .u64 (hi (X : Int))) (.int .u64 (lo (X : Int))) 213 := by rw [hV]; exact (b7).set (.int .u64 (hi (X : Int))) (.int .u64 (lo (X : Int)))
    have b9N : Box2 V18 w9.heap.size (.int .u64 (hi (D : Int))) (.int .u64 (lo (D : Int))) 213 := by rw [hV]; exact ((b9).other (b := w2.heap.size) (by omega) 0 (.int .u64 (hi (X : Int)))).other (b := w2.heap.size) (by omega) 1 (.int .u64 (lo (X : Int)))
    have b11N : Box2 V18 w13.heap.size (.int .u64 (hi (G : Int))) (.int .u64 (lo (G : Int))) 213 := by rw [hV]; exact ((b11).other (b := w2.heap.size) (by omega) 0 (.int .u64 (hi (X : Int)))).other (b := w2.heap.size) (by omega) 1 (.int .u64 (lo (X : Int)))
    replace xw : Ext w V18 := by rw [hV]; exact Ext.set (Ext.set (xw) (k := w2.heap.size) (o := 0) (u := .int .u64 (hi (X : Int))) (by omega)) (k := w2.heap.size) (o := 1) (u := .int .u64 (lo (X : Int))) (by omega)
    replace b2 := b2N; clear b2N
    replace b3 := b3N; clear b3N
    replace b4 := b4N; clear b4N
    replace b5 := b5N; clear b5N
    replace b7 := b7N; clear b7N
    replace b9 := b9N; clear b9N
    replace b11 := b11N; clear b11N
    clear hV
    have b9_c0 := b9.c0
    have b9_c1 := b9.c1
    have b11_c0 := b11.c0
    have b11_c1 := b11.c1
    go_wp2_with fail
    refine (HO2.out _).mono ?_
    rw [HY.out, HR2.out]
    rintro e w19 ⟨rfl, x19⟩
    clear b9_c0 b9_c1 b11_c0 b11_c1
    replace b2 := b2.ext x19
    replace b3 := b3.ext x19
    replace b4 := b4.ext x19
    replace b5 := b5.ext x19
    replace b7 := b7.ext x19
    replace b9 := b9.ext x19
    replace b11 := b11.ext x19
    replace xw := Ext.trans xw x19
    have b9_c0 := b9.c0
    have b9_c1 := b9.c1
    have b9_f0 := b9.f0
    have b9_f1 := b9.f1
    go_upto_region 8 with fail
    clear b9_c0 b9_c1 b9_f0 b9_f1
    refine wp_name ?_
    intro V20 hV
    have b2N : Box2 V20 w.heap.size (.int .i64 (hi n)) (.int .u64 (lo n)) 38 := by rw [hV]; exact ((b2).other (b := w9.heap.size) (by omega) 0 (.int .u64 (hi (Y : Int)))).other (b := w9.heap.size) (by omega) 1 (.int .u64 (lo (Y : Int)))
    have b3N : Box2 V20 (w.heap.size + 1) (.int .i64 (hi d)) (.int .u64 (lo d)) 38 := by rw [hV]; exact ((b3).other (b := w9.heap.size) (by omega) 0 (.int .u64 (hi (Y : Int)))).other (b := w9.heap.size) (by omega) 1 (.int .u64 (lo (Y : Int)))
    have b4N : Box2 V20 (w.heap.size + 1 + 1) (.int .i64 0) (.int .u64 0) 38 := by rw [hV]; exact ((b4).other (b := w9.heap.size) (by omega) 0 (.int .u64 (hi (Y : Int)))).other (b := w9.heap.size) (by omega) 1 (.int .u64 (lo (Y : Int)))
    have b5N : Box2 V20 (w.heap.size + 1 + 1 + 1) (.int .i64 0) (.int .u64 0) 38 := by rw [hV]; exact ((b5).other (b := w9.heap.size) (by omega) 0 (.int .u64 (hi (Y : Int)))).other (b := w9.heap.size) (by omega) 1 (.int .u64 (lo (Y : Int)))
    have b7N : Box2 V20 w2.heap.size (.int .u64 (hi (X : Int))) (.int .u64 (lo (X : Int))) 213 := by rw [hV]; exact ((b7).other (b := w9.heap.size) (by omega) 0 (.int .u64 (hi (Y : Int)))).other (b := w9.heap.size) (by omega) 1 (.int .u64 (lo (Y : Int)))
    have b9N : Box2 V20 w9.heap.size (.int .u64 (hi (Y : Int))) (.int .u64 (lo (Y : Int))) 213 := by rw [hV]; exact (b9).set (.int .u64 (hi (Y : Int))) (.int .u64 (lo (Y : Int)))
    have b11N : Box2 V20 w13.heap.size (.int .u64 (hi (G : Int))) (.int .u64 (lo (G : Int))) 213 := by rw [hV]; exact ((b11).other (b := w9.heap.size) (by omega) 0 (.int .u64 (hi (Y : Int)))).other (b := w9.heap.size) (by omega) 1 (.int .u64 (lo (Y : Int)))
    replace xw : Ext w V20 := by rw [hV]; exact Ext.set (Ext.set (xw) (k := w9.heap.size) (o := 0) (u := .int .u64 (hi (Y : Int))) (by omega)) (k := w9.heap.size) (o := 1) (u := .int .u64 (lo (Y : Int))) (by omega)
    replace b2 := b2N; clear b2N
    replace b3 := b3N; clear b3N
    replace b4 := b4N; clear b4N
    replace b5 := b5N; clear b5N
    replace b7 := b7N; clear b7N
    replace b9 := b9N; clear b9N
    replace b11 := b11N; clear b11N
    clear hV
    have b7_c0 := b7.c0
    have b7_c1 := b7.c1
    go_wp2_with fail
    refine (HSgd.out _ _ _ HUX.out).mono ?_
    rw [HP.out]
    rintro e w21 ⟨rfl, x21⟩
    rw [thi_yes hP, tlo_yes hP, ter_yes hP]
    clear b7_c0 b7_c1
    replace b2 := b2.ext x21
    replace b3 := b3.ext x21
    replace b4 := b4.ext x21
    replace b5 := b5.ext x21
    replace b7 := b7.ext x21
    replace b9 := b9.ext x21
    replace b11 := b11.ext x21
    replace xw := Ext.trans xw x21
    go_upto_region 9 with fail
    have o23 := b11.kind.lt
    have o24 := xw.size
    refine wp_name ?_
    intro V22 hV
    have b2N : Box2 V22 w.heap.size (.int .i64 (hi n)) (.int .u64 (lo n)) 38 := by rw [hV]; exact (b2).alloc _
    have b3N : Box2 V22 (w.heap.size + 1) (.int .i64 (hi d)) (.int .u64 (lo d)) 38 := by rw [hV]; exact (b3).alloc _
    have b4N : Box2 V22 (w.heap.size + 1 + 1) (.int .i64 0) (.int .u64 0) 38 := by rw [hV]; exact (b4).alloc _
    have b5N : Box2 V22 (w.heap.size + 1 + 1 + 1) (.int .i64 0) (.int .u64 0) 38 := by rw [hV]; exact (b5).alloc _
    have b7N : Box2 V22 w2.heap.size (.int .u64 (hi (X : Int))) (.int .u64 (lo (X : Int))) 213 := by rw [hV]; exact (b7).alloc _
    have b9N : Box2 V22 w9.heap.size (.int .u64 (hi (Y : Int))) (.int .u64 (lo (Y : Int))) 213 := by rw [hV]; exact (b9).alloc _
    have b11N : Box2 V22 w13.heap.size (.int .u64 (hi (G : Int))) (.int .u64 (lo (G : Int))) 213 := by rw [hV]; exact (b11).alloc _
    replace xw : Ext w V22 := by rw [hV]; exact Ext.alloc (xw)
    replace b2 := b2N; clear b2N
    replace b3 := b3N; clear b3N
    replace b4 := b4N; clear b4N
    replace b5 := b5N; clear b5N
    replace b7 := b7N; clear b7N
    replace b9 := b9N; clear b9N
    replace b11 := b11N; clear b11N
    have b12 : Box2 V22 w21.heap.size (.int .i64 (hi (frP n d))) (.int .u64 (lo (frP n d))) 38 := by rw [hV]; exact Box2.new rfl
    clear hV
    have b9_c0 := b9.c0
    have b9_c1 := b9.c1
    go_wp2_with fail
    refine (HSgd.out _ _ _ HUY.out).mono ?_
    rw [HQ.out]
    rintro e w25 ⟨rfl, x25⟩
    rw [thi_yes hQ, tlo_yes hQ, ter_yes hQ]
    clear b9_c0 b9_c1
    replace b2 := b2.ext x25
    replace b3 := b3.ext x25
    replace b4 := b4.ext x25
    replace b5 := b5.ext x25
    replace b7 := b7.ext x25
    replace b9 := b9.ext x25
    replace b11 := b11.ext x25
    replace b12 := b12.ext x25
    replace xw := Ext.trans xw x25
    go_upto_region 10 with fail
    have o27 := b12.kind.lt
    have o28 := xw.size
    refine wp_name ?_
    intro V26 hV
    have b2N : Box2 V26 w.heap.size (.int .i64 (hi n)) (.int .u64 (lo n)) 38 := by rw [hV]; exact (b2).alloc _
    have b3N : Box2 V26 (w.heap.size + 1) (.int .i64 (hi d)) (.int .u64 (lo d)) 38 := by rw [hV]; exact (b3).alloc _
    have b4N : Box2 V26 (w.heap.size + 1 + 1) (.int .i64 0) (.int .u64 0) 38 := by rw [hV]; exact (b4).alloc _
    have b5N : Box2 V26 (w.heap.size + 1 + 1 + 1) (.int .i64 0) (.int .u64 0) 38 := by rw [hV]; exact (b5).alloc _
    have b7N : Box2 V26 w2.heap.size (.int .u64 (hi (X : Int))) (.int .u64 (lo (X : Int))) 213 := by rw [hV]; exact (b7).alloc _
    have b9N : Box2 V26 w9.heap.size (.int .u64 (hi (Y : Int))) (.int .u64 (lo (Y : Int))) 213 := by rw [hV]; exact (b9).alloc _
    have b11N : Box2 V26 w13.heap.size (.int .u64 (hi (G : Int))) (.int .u64 (lo (G : Int))) 213 := by rw [hV]; exact (b11).alloc _
    have b12N : Box2 V26 w21.heap.size (.int .i64 (hi (frP n d))) (.int .u64 (lo (frP n d))) 38 := by rw [hV]; exact (b12).alloc _
    replace xw : Ext w V26 := by rw [hV]; exact Ext.alloc (xw)
    replace b2 := b2N; clear b2N
    replace b3 := b3N; clear b3N
    replace b4 := b4N; clear b4N
    replace b5 := b5N; clear b5N
    replace b7 := b7N; clear b7N
    replace b9 := b9N; clear b9N
    replace b11 := b11N; clear b11N
    replace b12 := b12N; clear b12N
    have b14 : Box2 V26 w25.heap.size (.int .i64 (hi (frQ n d))) (.int .u64 (lo (frQ n d))) 38 := by rw [hV]; exact Box2.new rfl
    clear hV
    go_upto_region 12 with fail
    have b12_c0 := b12.c0
    have b12_c1 := b12.c1
    have b14_c0 := b14.c0
    have b14_c1 := b14.c1
    have b4_c0 := b4.c0
    have b4_c1 := b4.c1
    have b4_f0 := b4.f0
    have b4_f1 := b4.f1
    have b5_c0 := b5.c0
    have b5_c1 := b5.c1
    have b5_f0 := b5.f0
    have b5_f1 := b5.f1
    have ne4_5 : ¬ w.heap.size + 1 + 1 = w.heap.size + 1 + 1 + 1 := by omega
    have ne5_4 : ¬ w.heap.size + 1 + 1 + 1 = w.heap.size + 1 + 1 := by omega
    have ne4_12 : ¬ w.heap.size + 1 + 1 = w21.heap.size := by omega
    have ne12_4 : ¬ w21.heap.size = w.heap.size + 1 + 1 := by omega
    have ne4_14 : ¬ w.heap.size + 1 + 1 = w25.heap.size := by omega
    have ne14_4 : ¬ w25.heap.size = w.heap.size + 1 + 1 := by omega
    have ne5_12 : ¬ w.heap.size + 1 + 1 + 1 = w21.heap.size := by omega
    have ne12_5 : ¬ w21.heap.size = w.heap.size + 1 + 1 + 1 := by omega
    have ne5_14 : ¬ w.heap.size + 1 + 1 + 1 = w25.heap.size := by omega
    have ne14_5 : ¬ w25.heap.size = w.heap.size + 1 + 1 + 1 := by omega
    go_region
    clear ne4_5 ne5_4 ne4_12 ne12_4 ne4_14 ne14_4 ne5_12 ne12_5 ne5_14 ne14_5
    have xr := Ext.drew (Ext.set (Ext.set (Ext.set (Ext.set (xw) (k := w.heap.size + 1 + 1) (o := 0) (u := .int .i64 (hi (frP n d))) (by omega)) (k := w.heap.size + 1 + 1) (o := 1) (u := .int .u64 (lo (frP n d))) (by omega)) (k := w.heap.size + 1 + 1 + 1) (o := 0) (u := .int .i64 (hi (frQ n d))) (by omega)) (k := w.heap.size + 1 + 1 + 1) (o := 1) (u := .int .u64 (lo (frQ n d))) (by omega))
    go_wp2_with fail
    refine bodyPost_ret (v := .tuple #[.agg #[.int .i64 (hi (frP n d)), .int .u64 (lo (frP n d))], .agg #[.int .i64 (hi (frQ n d)), .int .u64 (lo (frQ n d))], .int .i64 0]) (by simp [results, Try.results172, go_sem, b4_c0, b4_c1, b5_c0, b5_c1]) rfl (retFr_yes ⟨H0.out, hP, hQ⟩ xr)
  · have g1 : (hi d == 0) = false := by simpa using hz1
    clear hz hz1
    go_enter Try.func172, Try.ntmps172
    go_upto_region 1 with fail
    have xw := Ext.refl w
    refine wp_name ?_
    intro V29 hV
    replace xw : Ext w V29 := by rw [hV]; exact Ext.alloc (Ext.alloc (Ext.alloc (Ext.alloc (xw))))
    have b2 : Box2 V29 w.heap.size (.int .i64 (hi n)) (.int .u64 (lo n)) 38 := by rw [hV]; exact (((Box2.new rfl).alloc _).alloc _).alloc _
    have b3 : Box2 V29 (w.heap.size + 1) (.int .i64 (hi d)) (.int .u64 (lo d)) 38 := by rw [hV]; exact ((Box2.new (by simp)).alloc _).alloc _
    have b4 : Box2 V29 (w.heap.size + 1 + 1) (.int .i64 0) (.int .u64 0) 38 := by rw [hV]; exact (Box2.new (by simp)).alloc _
    have b5 : Box2 V29 (w.heap.size + 1 + 1 + 1) (.int .i64 0) (.int .u64 0) 38 := by rw [hV]; exact Box2.new (by simp)
    clear hV
    have b3_c0 := b3.c0
    have b3_c1 := b3.c1
    go_upto_region 3 with fail
    clear b3_c0 b3_c1
    have b2_c0 := b2.c0
    have b2_c1 := b2.c1
    go_wp2_with fail
    refine (HPar.out n _ hn).mono ?_
    rw [HA.out]
    rintro e w30 ⟨rfl, x30⟩
    clear b2_c0 b2_c1
    replace b2 := b2.ext x30
    replace b3 := b3.ext x30
    replace b4 := b4.ext x30
    replace b5 := b5.ext x30
    replace xw := Ext.trans xw x30
    go_upto_region 4 with fail
    have o32 := b2.kind.lt
    have o33 := b3.kind.lt
    have o34 := b4.kind.lt
    have o35 := b5.kind.lt
    have o36 := xw.size
    refine wp_name ?_
    intro V31 hV
    have b2N : Box2 V31 w.heap.size (.int .i64 (hi n)) (.int .u64 (lo n)) 38 := by rw [hV]; exact (b2).alloc _
    have b3N : Box2 V31 (w.heap.size + 1) (.int .i64 (hi d)) (.int .u64 (lo d)) 38 := by rw [hV]; exact (b3).alloc _
    have b4N : Box2 V31 (w.heap.size + 1 + 1) (.int .i64 0) (.int .u64 0) 38 := by rw [hV]; exact (b4).alloc _
    have b5N : Box2 V31 (w.heap.size + 1 + 1 + 1) (.int .i64 0) (.int .u64 0) 38 := by rw [hV]; exact (b5).alloc _
    replace xw : Ext w V31 := by rw [hV]; exact Ext.alloc (xw)
    replace b2 := b2N; clear b2N
    replace b3 := b3N; clear b3N
    replace b4 := b4N; clear b4N
    replace b5 := b5N; clear b5N
    have b7 : Box2 V31 w30.heap.size (.int .u64 (hi (A : Int))) (.int .u64 (lo (A : Int))) 213 := by rw [hV]; exact Box2.new rfl
    clear hV
    have b3_c0 := b3.c0
    have b3_c1 := b3.c1
    go_wp2_with fail
    refine (HPar.out d _ hd).mono ?_
    rw [HD.out]
    rintro e w37 ⟨rfl, x37⟩
    clear b3_c0 b3_c1
    replace b2 := b2.ext x37
    replace b3 := b3.ext x37
    replace b4 := b4.ext x37
    replace b5 := b5.ext x37
    replace b7 := b7.ext x37
    replace xw := Ext.trans xw x37
    go_upto_region 5 with fail
    have o39 := b7.kind.lt
    have o40 := xw.size
    refine wp_name ?_
    intro V38 hV
    have b2N : Box2 V38 w.heap.size (.int .i64 (hi n)) (.int .u64 (lo n)) 38 := by rw [hV]; exact (b2).alloc _
    have b3N : Box2 V38 (w.heap.size + 1) (.int .i64 (hi d)) (.int .u64 (lo d)) 38 := by rw [hV]; exact (b3).alloc _
    have b4N : Box2 V38 (w.heap.size + 1 + 1) (.int .i64 0) (.int .u64 0) 38 := by rw [hV]; exact (b4).alloc _
    have b5N : Box2 V38 (w.heap.size + 1 + 1 + 1) (.int .i64 0) (.int .u64 0) 38 := by rw [hV]; exact (b5).alloc _
    have b7N : Box2 V38 w30.heap.size (.int .u64 (hi (A : Int))) (.int .u64 (lo (A : Int))) 213 := by rw [hV]; exact (b7).alloc _
    replace xw : Ext w V38 := by rw [hV]; exact Ext.alloc (xw)
    replace b2 := b2N; clear b2N
    replace b3 := b3N; clear b3N
    replace b4 := b4N; clear b4N
    replace b5 := b5N; clear b5N
    replace b7 := b7N; clear b7N
    have b9 : Box2 V38 w37.heap.size (.int .u64 (hi (D : Int))) (.int .u64 (lo (D : Int))) 213 := by rw [hV]; exact Box2.new rfl
    clear hV
    have b7_c0 := b7.c0
    have b7_c1 := b7.c1
    have b9_c0 := b9.c0
    have b9_c1 := b9.c1
    go_wp2_with fail
    refine (HGc.out 170141183460469231731687303715884105728 A D _ HBd.out.1 HBd.out.2 HOT.out).mono ?_
    rw [HG.out]
    rintro e w41 ⟨rfl, x41⟩
    clear b7_c0 b7_c1 b9_c0 b9_c1
    replace b2 := b2.ext x41
    replace b3 := b3.ext x41
    replace b4 := b4.ext x41
    replace b5 := b5.ext x41
    replace b7 := b7.ext x41
    replace b9 := b9.ext x41
    replace xw := Ext.trans xw x41
    go_upto_region 6 with fail
    have o43 := b9.kind.lt
    have o44 := xw.size
    refine wp_name ?_
    intro V42 hV
    have b2N : Box2 V42 w.heap.size (.int .i64 (hi n)) (.int .u64 (lo n)) 38 := by rw [hV]; exact (b2).alloc _
    have b3N : Box2 V42 (w.heap.size + 1) (.int .i64 (hi d)) (.int .u64 (lo d)) 38 := by rw [hV]; exact (b3).alloc _
    have b4N : Box2 V42 (w.heap.size + 1 + 1) (.int .i64 0) (.int .u64 0) 38 := by rw [hV]; exact (b4).alloc _
    have b5N : Box2 V42 (w.heap.size + 1 + 1 + 1) (.int .i64 0) (.int .u64 0) 38 := by rw [hV]; exact (b5).alloc _
    have b7N : Box2 V42 w30.heap.size (.int .u64 (hi (A : Int))) (.int .u64 (lo (A : Int))) 213 := by rw [hV]; exact (b7).alloc _
    have b9N : Box2 V42 w37.heap.size (.int .u64 (hi (D : Int))) (.int .u64 (lo (D : Int))) 213 := by rw [hV]; exact (b9).alloc _
    replace xw : Ext w V42 := by rw [hV]; exact Ext.alloc (xw)
    replace b2 := b2N; clear b2N
    replace b3 := b3N; clear b3N
    replace b4 := b4N; clear b4N
    replace b5 := b5N; clear b5N
    replace b7 := b7N; clear b7N
    replace b9 := b9N; clear b9N
    have b11 : Box2 V42 w41.heap.size (.int .u64 (hi (G : Int))) (.int .u64 (lo (G : Int))) 213 := by rw [hV]; exact Box2.new rfl
    clear hV
    have b7_c0 := b7.c0
    have b7_c1 := b7.c1
    have b11_c0 := b11.c0
    have b11_c1 := b11.c1
    go_wp2_with fail
    refine (HO1.out _).mono ?_
    rw [HX.out, HR1.out]
    rintro e w45 ⟨rfl, x45⟩
    clear b7_c0 b7_c1 b11_c0 b11_c1
    replace b2 := b2.ext x45
    replace b3 := b3.ext x45
    replace b4 := b4.ext x45
    replace b5 := b5.ext x45
    replace b7 := b7.ext x45
    replace b9 := b9.ext x45
    replace b11 := b11.ext x45
    replace xw := Ext.trans xw x45
    have b7_c0 := b7.c0
    have b7_c1 := b7.c1
    have b7_f0 := b7.f0
    have b7_f1 := b7.f1
    go_upto_region 7 with fail
    clear b7_c0 b7_c1 b7_f0 b7_f1
    refine wp_name ?_
    intro V46 hV
    have b2N : Box2 V46 w.heap.size (.int .i64 (hi n)) (.int .u64 (lo n)) 38 := by rw [hV]; exact ((b2).other (b := w30.heap.size) (by omega) 0 (.int .u64 (hi (X : Int)))).other (b := w30.heap.size) (by omega) 1 (.int .u64 (lo (X : Int)))
    have b3N : Box2 V46 (w.heap.size + 1) (.int .i64 (hi d)) (.int .u64 (lo d)) 38 := by rw [hV]; exact ((b3).other (b := w30.heap.size) (by omega) 0 (.int .u64 (hi (X : Int)))).other (b := w30.heap.size) (by omega) 1 (.int .u64 (lo (X : Int)))
    have b4N : Box2 V46 (w.heap.size + 1 + 1) (.int .i64 0) (.int .u64 0) 38 := by rw [hV]; exact ((b4).other (b := w30.heap.size) (by omega) 0 (.int .u64 (hi (X : Int)))).other (b := w30.heap.size) (by omega) 1 (.int .u64 (lo (X : Int)))
    have b5N : Box2 V46 (w.heap.size + 1 + 1 + 1) (.int .i64 0) (.int .u64 0) 38 := by rw [hV]; exact ((b5).other (b := w30.heap.size) (by omega) 0 (.int .u64 (hi (X : Int)))).other (b := w30.heap.size) (by omega) 1 (.int .u64 (lo (X : Int)))
    have b7N : Box2 V46 w30.heap.size (.int .u64 (hi (X : Int))) (.int .u64 (lo (X : Int))) 213 := by rw [hV]; exact (b7).set (.int .u64 (hi (X : Int))) (.int .u64 (lo (X : Int)))
    have b9N : Box2 V46 w37.heap.size (.int .u64 (hi (D : Int))) (.int .u64 (lo (D : Int))) 213 := by rw [hV]; exact ((b9).other (b := w30.heap.size) (by omega) 0 (.int .u64 (hi (X : Int)))).other (b := w30.heap.size) (by omega) 1 (.int .u64 (lo (X : Int)))
    have b11N : Box2 V46 w41.heap.size (.int .u64 (hi (G : Int))) (.int .u64 (lo (G : Int))) 213 := by rw [hV]; exact ((b11).other (b := w30.heap.size) (by omega) 0 (.int .u64 (hi (X : Int)))).other (b := w30.heap.size) (by omega) 1 (.int .u64 (lo (X : Int)))
    replace xw : Ext w V46 := by rw [hV]; exact Ext.set (Ext.set (xw) (k := w30.heap.size) (o := 0) (u := .int .u64 (hi (X : Int))) (by omega)) (k := w30.heap.size) (o := 1) (u := .int .u64 (lo (X : Int))) (by omega)
    replace b2 := b2N; clear b2N
    replace b3 := b3N; clear b3N
    replace b4 := b4N; clear b4N
    replace b5 := b5N; clear b5N
    replace b7 := b7N; clear b7N
    replace b9 := b9N; clear b9N
    replace b11 := b11N; clear b11N
    clear hV
    have b9_c0 := b9.c0
    have b9_c1 := b9.c1
    have b11_c0 := b11.c0
    have b11_c1 := b11.c1
    go_wp2_with fail
    refine (HO2.out _).mono ?_
    rw [HY.out, HR2.out]
    rintro e w47 ⟨rfl, x47⟩
    clear b9_c0 b9_c1 b11_c0 b11_c1
    replace b2 := b2.ext x47
    replace b3 := b3.ext x47
    replace b4 := b4.ext x47
    replace b5 := b5.ext x47
    replace b7 := b7.ext x47
    replace b9 := b9.ext x47
    replace b11 := b11.ext x47
    replace xw := Ext.trans xw x47
    have b9_c0 := b9.c0
    have b9_c1 := b9.c1
    have b9_f0 := b9.f0
    have b9_f1 := b9.f1
    go_upto_region 8 with fail
    clear b9_c0 b9_c1 b9_f0 b9_f1
    refine wp_name ?_
    intro V48 hV
    have b2N : Box2 V48 w.heap.size (.int .i64 (hi n)) (.int .u64 (lo n)) 38 := by rw [hV]; exact ((b2).other (b := w37.heap.size) (by omega) 0 (.int .u64 (hi (Y : Int)))).other (b := w37.heap.size) (by omega) 1 (.int .u64 (lo (Y : Int)))
    have b3N : Box2 V48 (w.heap.size + 1) (.int .i64 (hi d)) (.int .u64 (lo d)) 38 := by rw [hV]; exact ((b3).other (b := w37.heap.size) (by omega) 0 (.int .u64 (hi (Y : Int)))).other (b := w37.heap.size) (by omega) 1 (.int .u64 (lo (Y : Int)))
    have b4N : Box2 V48 (w.heap.size + 1 + 1) (.int .i64 0) (.int .u64 0) 38 := by rw [hV]; exact ((b4).other (b := w37.heap.size) (by omega) 0 (.int .u64 (hi (Y : Int)))).other (b := w37.heap.size) (by omega) 1 (.int .u64 (lo (Y : Int)))
    have b5N : Box2 V48 (w.heap.size + 1 + 1 + 1) (.int .i64 0) (.int .u64 0) 38 := by rw [hV]; exact ((b5).other (b := w37.heap.size) (by omega) 0 (.int .u64 (hi (Y : Int)))).other (b := w37.heap.size) (by omega) 1 (.int .u64 (lo (Y : Int)))
    have b7N : Box2 V48 w30.heap.size (.int .u64 (hi (X : Int))) (.int .u64 (lo (X : Int))) 213 := by rw [hV]; exact ((b7).other (b := w37.heap.size) (by omega) 0 (.int .u64 (hi (Y : Int)))).other (b := w37.heap.size) (by omega) 1 (.int .u64 (lo (Y : Int)))
    have b9N : Box2 V48 w37.heap.size (.int .u64 (hi (Y : Int))) (.int .u64 (lo (Y : Int))) 213 := by rw [hV]; exact (b9).set (.int .u64 (hi (Y : Int))) (.int .u64 (lo (Y : Int)))
    have b11N : Box2 V48 w41.heap.size (.int .u64 (hi (G : Int))) (.int .u64 (lo (G : Int))) 213 := by rw [hV]; exact ((b11).other (b := w37.heap.size) (by omega) 0 (.int .u64 (hi (Y : Int)))).other (b := w37.heap.size) (by omega) 1 (.int .u64 (lo (Y : Int)))
    replace xw : Ext w V48 := by rw [hV]; exact Ext.set (Ext.set (xw) (k := w37.heap.size) (o := 0) (u := .int .u64 (hi (Y : Int))) (by omega)) (k := w37.heap.size) (o := 1) (u := .int .u64 (lo (Y : Int))) (by omega)
    replace b2 := b2N; clear b2N
    replace b3 := b3N; clear b3N
    replace b4 := b4N; clear b4N
    replace b5 := b5N; clear b5N
    replace b7 := b7N; clear b7N
    replace b9 := b9N; clear b9N
    replace b11 := b11N; clear b11N
    clear hV
    have b7_c0 := b7.c0
    have b7_c1 := b7.c1
    go_wp2_with fail
    refine (HSgd.out _ _ _ HUX.out).mono ?_
    rw [HP.out]
    rintro e w49 ⟨rfl, x49⟩
    rw [thi_yes hP, tlo_yes hP, ter_yes hP]
    clear b7_c0 b7_c1
    replace b2 := b2.ext x49
    replace b3 := b3.ext x49
    replace b4 := b4.ext x49
    replace b5 := b5.ext x49
    replace b7 := b7.ext x49
    replace b9 := b9.ext x49
    replace b11 := b11.ext x49
    replace xw := Ext.trans xw x49
    go_upto_region 9 with fail
    have o51 := b11.kind.lt
    have o52 := xw.size
    refine wp_name ?_
    intro V50 hV
    have b2N : Box2 V50 w.heap.size (.int .i64 (hi n)) (.int .u64 (lo n)) 38 := by rw [hV]; exact (b2).alloc _
    have b3N : Box2 V50 (w.heap.size + 1) (.int .i64 (hi d)) (.int .u64 (lo d)) 38 := by rw [hV]; exact (b3).alloc _
    have b4N : Box2 V50 (w.heap.size + 1 + 1) (.int .i64 0) (.int .u64 0) 38 := by rw [hV]; exact (b4).alloc _
    have b5N : Box2 V50 (w.heap.size + 1 + 1 + 1) (.int .i64 0) (.int .u64 0) 38 := by rw [hV]; exact (b5).alloc _
    have b7N : Box2 V50 w30.heap.size (.int .u64 (hi (X : Int))) (.int .u64 (lo (X : Int))) 213 := by rw [hV]; exact (b7).alloc _
    have b9N : Box2 V50 w37.heap.size (.int .u64 (hi (Y : Int))) (.int .u64 (lo (Y : Int))) 213 := by rw [hV]; exact (b9).alloc _
    have b11N : Box2 V50 w41.heap.size (.int .u64 (hi (G : Int))) (.int .u64 (lo (G : Int))) 213 := by rw [hV]; exact (b11).alloc _
    replace xw : Ext w V50 := by rw [hV]; exact Ext.alloc (xw)
    replace b2 := b2N; clear b2N
    replace b3 := b3N; clear b3N
    replace b4 := b4N; clear b4N
    replace b5 := b5N; clear b5N
    replace b7 := b7N; clear b7N
    replace b9 := b9N; clear b9N
    replace b11 := b11N; clear b11N
    have b12 : Box2 V50 w49.heap.size (.int .i64 (hi (frP n d))) (.int .u64 (lo (frP n d))) 38 := by rw [hV]; exact Box2.new rfl
    clear hV
    have b9_c0 := b9.c0
    have b9_c1 := b9.c1
    go_wp2_with fail
    refine (HSgd.out _ _ _ HUY.out).mono ?_
    rw [HQ.out]
    rintro e w53 ⟨rfl, x53⟩
    rw [thi_yes hQ, tlo_yes hQ, ter_yes hQ]
    clear b9_c0 b9_c1
    replace b2 := b2.ext x53
    replace b3 := b3.ext x53
    replace b4 := b4.ext x53
    replace b5 := b5.ext x53
    replace b7 := b7.ext x53
    replace b9 := b9.ext x53
    replace b11 := b11.ext x53
    replace b12 := b12.ext x53
    replace xw := Ext.trans xw x53
    go_upto_region 10 with fail
    have o55 := b12.kind.lt
    have o56 := xw.size
    refine wp_name ?_
    intro V54 hV
    have b2N : Box2 V54 w.heap.size (.int .i64 (hi n)) (.int .u64 (lo n)) 38 := by rw [hV]; exact (b2).alloc _
    have b3N : Box2 V54 (w.heap.size + 1) (.int .i64 (hi d)) (.int .u64 (lo d)) 38 := by rw [hV]; exact (b3).alloc _
    have b4N : Box2 V54 (w.heap.size + 1 + 1) (.int .i64 0) (.int .u64 0) 38 := by rw [hV]; exact (b4).alloc _
    have b5N : Box2 V54 (w.heap.size + 1 + 1 + 1) (.int .i64 0) (.int .u64 0) 38 := by rw [hV]; exact (b5).alloc _
    have b7N : Box2 V54 w30.heap.size (.int .u64 (hi (X : Int))) (.int .u64 (lo (X : Int))) 213 := by rw [hV]; exact (b7).alloc _
    have b9N : Box2 V54 w37.heap.size (.int .u64 (hi (Y : Int))) (.int .u64 (lo (Y : Int))) 213 := by rw [hV]; exact (b9).alloc _
    have b11N : Box2 V54 w41.heap.size (.int .u64 (hi (G : Int))) (.int .u64 (lo (G : Int))) 213 := by rw [hV]; exact (b11).alloc _
    have b12N : Box2 V54 w49.heap.size (.int .i64 (hi (frP n d))) (.int .u64 (lo (frP n d))) 38 := by rw [hV]; exact (b12).alloc _
    replace xw : Ext w V54 := by rw [hV]; exact Ext.alloc (xw)
    replace b2 := b2N; clear b2N
    replace b3 := b3N; clear b3N
    replace b4 := b4N; clear b4N
    replace b5 := b5N; clear b5N
    replace b7 := b7N; clear b7N
    replace b9 := b9N; clear b9N
    replace b11 := b11N; clear b11N
    replace b12 := b12N; clear b12N
    have b14 : Box2 V54 w53.heap.size (.int .i64 (hi (frQ n d))) (.int .u64 (lo (frQ n d))) 38 := by rw [hV]; exact Box2.new rfl
    clear hV
    go_upto_region 12 with fail
    have b12_c0 := b12.c0
    have b12_c1 := b12.c1
    have b14_c0 := b14.c0
    have b14_c1 := b14.c1
    have b4_c0 := b4.c0
    have b4_c1 := b4.c1
    have b4_f0 := b4.f0
    have b4_f1 := b4.f1
    have b5_c0 := b5.c0
    have b5_c1 := b5.c1
    have b5_f0 := b5.f0
    have b5_f1 := b5.f1
    have ne4_5 : ¬ w.heap.size + 1 + 1 = w.heap.size + 1 + 1 + 1 := by omega
    have ne5_4 : ¬ w.heap.size + 1 + 1 + 1 = w.heap.size + 1 + 1 := by omega
    have ne4_12 : ¬ w.heap.size + 1 + 1 = w49.heap.size := by omega
    have ne12_4 : ¬ w49.heap.size = w.heap.size + 1 + 1 := by omega
    have ne4_14 : ¬ w.heap.size + 1 + 1 = w53.heap.size := by omega
    have ne14_4 : ¬ w53.heap.size = w.heap.size + 1 + 1 := by omega
    have ne5_12 : ¬ w.heap.size + 1 + 1 + 1 = w49.heap.size := by omega
    have ne12_5 : ¬ w49.heap.size = w.heap.size + 1 + 1 + 1 := by omega
    have ne5_14 : ¬ w.heap.size + 1 + 1 + 1 = w53.heap.size := by omega
    have ne14_5 : ¬ w53.heap.size = w.heap.size + 1 + 1 + 1 := by omega
    go_region
    clear ne4_5 ne5_4 ne4_12 ne12_4 ne4_14 ne14_4 ne5_12 ne12_5 ne5_14 ne14_5
    have xr := Ext.drew (Ext.set (Ext.set (Ext.set (Ext.set (xw) (k := w.heap.size + 1 + 1) (o := 0) (u := .int .i64 (hi (frP n d))) (by omega)) (k := w.heap.size + 1 + 1) (o := 1) (u := .int .u64 (lo (frP n d))) (by omega)) (k := w.heap.size + 1 + 1 + 1) (o := 0) (u := .int .i64 (hi (frQ n d))) (by omega)) (k := w.heap.size + 1 + 1 + 1) (o := 1) (u := .int .u64 (lo (frQ n d))) (by omega))
    go_wp2_with fail
    refine bodyPost_ret (v := .tuple #[.agg #[.int .i64 (hi (frP n d)), .int .u64 (lo (frP n d))], .agg #[.int .i64 (hi (frQ n d)), .int .u64 (lo (frQ n d))], .int .i64 0]) (by simp [results, Try.results172, go_sem, b4_c0, b4_c1, b5_c0, b5_c1]) rfl (retFr_yes ⟨H0.out, hP, hQ⟩ xr)
set_option maxRecDepth 100000 in
set_option maxHeartbeats 3200000 in
theorem dfrac_no1 (n d : Int) (w : World) (hn : W128 n) (hd : W128 d) (h0 : d ≠ 0) (hP : ¬ W128 (frP n d)) :
    Calls Try.prog 172 #[.agg #[.int .i64 (hi n), .int .u64 (lo n)], .agg #[.int .i64 (hi d), .int .u64 (lo d)]] w (RetFr w n d) := by
  have HPar := Lib.hid dparts
  have HGc := Lib.hid dgcd
  have HSgd := Lib.hid dsigned
  have HOT := Lib.hid (overTo_all (M := 170141183460469231731687303715884105728) (Nat.le_refl _))
  have HBd := Lib.hid (show n.natAbs ≤ 170141183460469231731687303715884105728 ∧ d.natAbs ≤ 170141183460469231731687303715884105728 by unfold W128 at hn hd; omega)
  obtain ⟨A, hA⟩ : ∃ A : Nat, A = n.natAbs := ⟨_, rfl⟩
  obtain ⟨D, hD⟩ : ∃ D : Nat, D = d.natAbs := ⟨_, rfl⟩
  obtain ⟨G, hG⟩ : ∃ G : Nat, G = Nat.gcd A D := ⟨_, rfl⟩
  obtain ⟨X, hX⟩ : ∃ X : Nat, X = A / G := ⟨_, rfl⟩
  obtain ⟨Y, hY⟩ : ∃ Y : Nat, Y = D / G := ⟨_, rfl⟩
  have hg : 0 < G := by rw [hG, hA, hD]; exact gcd_pos h0
  have hg2 : G ≤ D := by rw [hG]; exact Nat.gcd_le_right _ (by omega)
  rw [← hA, ← hD] at HBd
  have HA := Lib.hid (show mag n = (A : Int) by rw [hA]; exact mag_abs n)
  have HD := Lib.hid (show mag d = (D : Int) by rw [hD]; exact mag_abs d)
  have HG := Lib.hid (show ((Nat.gcd A D : Nat) : Int) = (G : Int) by rw [hG])
  have HO1 := Lib.hid (show OverC (A : Int) (G : Int) from HOT.out A G HBd.out.1 hg (Nat.le_trans hg2 HBd.out.2))
  have HO2 := Lib.hid (show OverC (D : Int) (G : Int) from HOT.out D G HBd.out.2 hg (Nat.le_trans hg2 HBd.out.2))
  have HX := Lib.hid (show (A : Int) / (G : Int) = (X : Int) by rw [hX]; omega)
  have HY := Lib.hid (show (D : Int) / (G : Int) = (Y : Int) by rw [hY]; omega)
  have HUX := Lib.hid (show U128 (X : Int) by have := Nat.div_le_self A G; have := HBd.out.1; unfold U128; omega)
  have HUY := Lib.hid (show U128 (Y : Int) by have := Nat.div_le_self D G; have := HBd.out.2; unfold U128; omega)
  have HP := Lib.hid (show wsg (!(decide (n < 0) == decide (d < 0))) (X : Int) = frP n d by unfold frP; rw [hX, hG, hA, hD])
  have HQ := Lib.hid (show wsg false (Y : Int) = frQ n d by unfold frQ; rw [hY, hG, hA, hD]; rfl)
  obtain ⟨r1, e1⟩ : ∃ r, (A : Int) % (G : Int) = r := ⟨_, rfl⟩
  obtain ⟨r2, e2⟩ : ∃ r, (D : Int) % (G : Int) = r := ⟨_, rfl⟩
  have HR1 := Lib.hid e1
  have HR2 := Lib.hid e2
  obtain ⟨t1, e3⟩ : ∃ r, thi (frQ n d) = r := ⟨_, rfl⟩
  obtain ⟨t2, e4⟩ : ∃ r, tlo (frQ n d) = r := ⟨_, rfl⟩
  obtain ⟨t3, e5⟩ : ∃ r, ter (frQ n d) = r := ⟨_, rfl⟩
  have HT1 := Lib.hid e3
  have HT2 := Lib.hid e4
  have HT3 := Lib.hid e5
  have H0 := Lib.hid h0
  have hz : ¬ (hi d = 0 ∧ lo d = 0) := by rintro ⟨g1, g2⟩; have := hi_lo d; omega
  clear hA hD hG hX hY e1 e2 e3 e4 e5 h0 hg hg2
  by_cases hz1 : hi d = 0
  · have g1 : (hi d == 0) = true := by simpa using hz1
    have g2 : (lo d == 0) = false := by simpa using fun h => hz ⟨hz1, h⟩
    clear hz hz1
    go_enter Try.func172, Try.ntmps172
    go_upto_region 1 with fail
    have xw := Ext.refl w
    refine wp_name ?_
    intro V1 hV
    replace xw : Ext w V1 := by rw [hV]; exact Ext.alloc (Ext.alloc (Ext.alloc (Ext.alloc (xw))))
    have b2 : Box2 V1 w.heap.size (.int .i64 (hi n)) (.int .u64 (lo n)) 38 := by rw [hV]; exact (((Box2.new rfl).alloc _).alloc _).alloc _
    have b3 : Box2 V1 (w.heap.size + 1) (.int .i64 (hi d)) (.int .u64 (lo d)) 38 := by rw [hV]; exact ((Box2.new (by simp)).alloc _).alloc _
    have b4 : Box2 V1 (w.heap.size + 1 + 1) (.int .i64 0) (.int .u64 0) 38 := by rw [hV]; exact (Box2.new (by simp)).alloc _
    have b5 : Box2 V1 (w.heap.size + 1 + 1 + 1) (.int .i64 0) (.int .u64 0) 38 := by rw [hV]; exact Box2.new (by simp)
    clear hV
    have b3_c0 := b3.c0
    have b3_c1 := b3.c1
    go_upto_region 3 with fail
    clear b3_c0 b3_c1
    have b2_c0 := b2.c0
    have b2_c1 := b2.c1
    go_wp2_with fail
    refine (HPar.out n _ hn).mono ?_
    rw [HA.out]
    rintro e w2 ⟨rfl, x2⟩
    clear b2_c0 b2_c1
    replace b2 := b2.ext x2
    replace b3 := b3.ext x2
    replace b4 := b4.ext x2
    replace b5 := b5.ext x2
    replace xw := Ext.trans xw x2
    go_upto_region 4 with fail
    have o4 := b2.kind.lt
    have o5 := b3.kind.lt
    have o6 := b4.kind.lt
    have o7 := b5.kind.lt
    have o8 := xw.size
    refine wp_name ?_
    intro V3 hV
    have b2N : Box2 V3 w.heap.size (.int .i64 (hi n)) (.int .u64 (lo n)) 38 := by rw [hV]; exact (b2).alloc _
    have b3N : Box2 V3 (w.heap.size + 1) (.int .i64 (hi d)) (.int .u64 (lo d)) 38 := by rw [hV]; exact (b3).alloc _
    have b4N : Box2 V3 (w.heap.size + 1 + 1) (.int .i64 0) (.int .u64 0) 38 := by rw [hV]; exact (b4).alloc _
    have b5N : Box2 V3 (w.heap.size + 1 + 1 + 1) (.int .i64 0) (.int .u64 0) 38 := by rw [hV]; exact (b5).alloc _
    replace xw : Ext w V3 := by rw [hV]; exact Ext.alloc (xw)
    replace b2 := b2N; clear b2N
    replace b3 := b3N; clear b3N
    replace b4 := b4N; clear b4N
    replace b5 := b5N; clear b5N
    have b7 : Box2 V3 w2.heap.size (.int .u64 (hi (A : Int))) (.int .u64 (lo (A : Int))) 213 := by rw [hV]; exact Box2.new rfl
    clear hV
    have b3_c0 := b3.c0
    have b3_c1 := b3.c1
    go_wp2_with fail
    refine (HPar.out d _ hd).mono ?_
    rw [HD.out]
    rintro e w9 ⟨rfl, x9⟩
    clear b3_c0 b3_c1
    replace b2 := b2.ext x9
    replace b3 := b3.ext x9
    replace b4 := b4.ext x9
    replace b5 := b5.ext x9
    replace b7 := b7.ext x9
    replace xw := Ext.trans xw x9
    go_upto_region 5 with fail
    have o11 := b7.kind.lt
    have o12 := xw.size
    refine wp_name ?_
    intro V10 hV
    have b2N : Box2 V10 w.heap.size (.int .i64 (hi n)) (.int .u64 (lo n)) 38 := by rw [hV]; exact (b2).alloc _
    have b3N : Box2 V10 (w.heap.size + 1) (.int .i64 (hi d)) (.int .u64 (lo d)) 38 := by rw [hV]; exact (b3).alloc _
    have b4N : Box2 V10 (w.heap.size + 1 + 1) (.int .i64 0) (.int .u64 0) 38 := by rw [hV]; exact (b4).alloc _
    have b5N : Box2 V10 (w.heap.size + 1 + 1 + 1) (.int .i64 0) (.int .u64 0) 38 := by rw [hV]; exact (b5).alloc _
    have b7N : Box2 V10 w2.heap.size (.int .u64 (hi (A : Int))) (.int .u64 (lo (A : Int))) 213 := by rw [hV]; exact (b7).alloc _
    replace xw : Ext w V10 := by rw [hV]; exact Ext.alloc (xw)
    replace b2 := b2N; clear b2N
    replace b3 := b3N; clear b3N
    replace b4 := b4N; clear b4N
    replace b5 := b5N; clear b5N
    replace b7 := b7N; clear b7N
    have b9 : Box2 V10 w9.heap.size (.int .u64 (hi (D : Int))) (.int .u64 (lo (D : Int))) 213 := by rw [hV]; exact Box2.new rfl
    clear hV
    have b7_c0 := b7.c0
    have b7_c1 := b7.c1
    have b9_c0 := b9.c0
    have b9_c1 := b9.c1
    go_wp2_with fail
    refine (HGc.out 170141183460469231731687303715884105728 A D _ HBd.out.1 HBd.out.2 HOT.out).mono ?_
    rw [HG.out]
    rintro e w13 ⟨rfl, x13⟩
    clear b7_c0 b7_c1 b9_c0 b9_c1
    replace b2 := b2.ext x13
    replace b3 := b3.ext x13
    replace b4 := b4.ext x13
    replace b5 := b5.ext x13
    replace b7 := b7.ext x13
    replace b9 := b9.ext x13
    replace xw := Ext.trans xw x13
    go_upto_region 6 with fail
    have o15 := b9.kind.lt
    have o16 := xw.size
    refine wp_name ?_
    intro V14 hV
    have b2N : Box2 V14 w.heap.size (.int .i64 (hi n)) (.int .u64 (lo n)) 38 := by rw [hV]; exact (b2).alloc _
    have b3N : Box2 V14 (w.heap.size + 1) (.int .i64 (hi d)) (.int .u64 (lo d)) 38 := by rw [hV]; exact (b3).alloc _
    have b4N : Box2 V14 (w.heap.size + 1 + 1) (.int .i64 0) (.int .u64 0) 38 := by rw [hV]; exact (b4).alloc _
    have b5N : Box2 V14 (w.heap.size + 1 + 1 + 1) (.int .i64 0) (.int .u64 0) 38 := by rw [hV]; exact (b5).alloc _
    have b7N : Box2 V14 w2.heap.size (.int .u64 (hi (A : Int))) (.int .u64 (lo (A : Int))) 213 := by rw [hV]; exact (b7).alloc _
    have b9N : Box2 V14 w9.heap.size (.int .u64 (hi (D : Int))) (.int .u64 (lo (D : Int))) 213 := by rw [hV]; exact (b9).alloc _
    replace xw : Ext w V14 := by rw [hV]; exact Ext.alloc (xw)
    replace b2 := b2N; clear b2N
    replace b3 := b3N; clear b3N
    replace b4 := b4N; clear b4N
    replace b5 := b5N; clear b5N
    replace b7 := b7N; clear b7N
    replace b9 := b9N; clear b9N
    have b11 : Box2 V14 w13.heap.size (.int .u64 (hi (G : Int))) (.int .u64 (lo (G : Int))) 213 := by rw [hV]; exact Box2.new rfl
    clear hV
    have b7_c0 := b7.c0
    have b7_c1 := b7.c1
    have b11_c0 := b11.c0
    have b11_c1 := b11.c1
    go_wp2_with fail
    refine (HO1.out _).mono ?_
    rw [HX.out, HR1.out]
    rintro e w17 ⟨rfl, x17⟩
    clear b7_c0 b7_c1 b11_c0 b11_c1
    replace b2 := b2.ext x17
    replace b3 := b3.ext x17
    replace b4 := b4.ext x17
    replace b5 := b5.ext x17
    replace b7 := b7.ext x17
    replace b9 := b9.ext x17
    replace b11 := b11.ext x17
    replace xw := Ext.trans xw x17
    have b7_c0 := b7.c0
    have b7_c1 := b7.c1
    have b7_f0 := b7.f0
    have b7_f1 := b7.f1
    go_upto_region 7 with fail
    clear b7_c0 b7_c1 b7_f0 b7_f1
    refine wp_name ?_
    intro V18 hV
    have b2N : Box2 V18 w.heap.size (.int .i64 (hi n)) (.int .u64 (lo n)) 38 := by rw [hV]; exact ((b2).other (b := w2.heap.size) (by omega) 0 (.int .u64 (hi (X : Int)))).other (b := w2.heap.size) (by omega) 1 (.int .u64 (lo (X : Int)))
    have b3N : Box2 V18 (w.heap.size + 1) (.int .i64 (hi d)) (.int .u64 (lo d)) 38 := by rw [hV]; exact ((b3).other (b := w2.heap.size) (by omega) 0 (.int .u64 (hi (X : Int)))).other (b := w2.heap.size) (by omega) 1 (.int .u64 (lo (X : Int)))
    have b4N : Box2 V18 (w.heap.size + 1 + 1) (.int .i64 0) (.int .u64 0) 38 := by rw [hV]; exact ((b4).other (b := w2.heap.size) (by omega) 0 (.int .u64 (hi (X : Int)))).other (b := w2.heap.size) (by omega) 1 (.int .u64 (lo (X : Int)))
    have b5N : Box2 V18 (w.heap.size + 1 + 1 + 1) (.int .i64 0) (.int .u64 0) 38 := by rw [hV]; exact ((b5).other (b := w2.heap.size) (by omega) 0 (.int .u64 (hi (X : Int)))).other (b := w2.heap.size) (by omega) 1 (.int .u64 (lo (X : Int)))
    have b7N : Box2 V18 w2.heap.size (.int .u64 (hi (X : Int))) (.int .u64 (lo (X : Int))) 213 := by rw [hV]; exact (b7).set (.int .u64 (hi (X : Int))) (.int .u64 (lo (X : Int)))
    have b9N : Box2 V18 w9.heap.size (.int .u64 (hi (D : Int))) (.int .u64 (lo (D : Int))) 213 := by rw [hV]; exact ((b9).other (b := w2.heap.size) (by omega) 0 (.int .u64 (hi (X : Int)))).other (b := w2.heap.size) (by omega) 1 (.int .u64 (lo (X : Int)))
    have b11N : Box2 V18 w13.heap.size (.int .u64 (hi (G : Int))) (.int .u64 (lo (G : Int))) 213 := by rw [hV]; exact ((b11).other (b := w2.heap.size) (by omega) 0 (.int .u64 (hi (X : Int)))).other (b := w2.heap.size) (by omega) 1 (.int .u64 (lo (X : Int)))
    replace xw : Ext w V18 := by rw [hV]; exact Ext.set (Ext.set (xw) (k := w2.heap.size) (o := 0) (u := .int .u64 (hi (X : Int))) (by omega)) (k := w2.heap.size) (o := 1) (u := .int .u64 (lo (X : Int))) (by omega)
    replace b2 := b2N; clear b2N
    replace b3 := b3N; clear b3N
    replace b4 := b4N; clear b4N
    replace b5 := b5N; clear b5N
    replace b7 := b7N; clear b7N
    replace b9 := b9N; clear b9N
    replace b11 := b11N; clear b11N
    clear hV
    have b9_c0 := b9.c0
    have b9_c1 := b9.c1
    have b11_c0 := b11.c0
    have b11_c1 := b11.c1
    go_wp2_with fail
    refine (HO2.out _).mono ?_
    rw [HY.out, HR2.out]
    rintro e w19 ⟨rfl, x19⟩
    clear b9_c0 b9_c1 b11_c0 b11_c1
    replace b2 := b2.ext x19
    replace b3 := b3.ext x19
    replace b4 := b4.ext x19
    replace b5 := b5.ext x19
    replace b7 := b7.ext x19
    replace b9 := b9.ext x19
    replace b11 := b11.ext x19
    replace xw := Ext.trans xw x19
    have b9_c0 := b9.c0
    have b9_c1 := b9.c1
    have b9_f0 := b9.f0
    have b9_f1 := b9.f1
    go_upto_region 8 with fail
    clear b9_c0 b9_c1 b9_f0 b9_f1
    refine wp_name ?_
    intro V20 hV
    have b2N : Box2 V20 w.heap.size (.int .i64 (hi n)) (.int .u64 (lo n)) 38 := by rw [hV]; exact ((b2).other (b := w9.heap.size) (by omega) 0 (.int .u64 (hi (Y : Int)))).other (b := w9.heap.size) (by omega) 1 (.int .u64 (lo (Y : Int)))
    have b3N : Box2 V20 (w.heap.size + 1) (.int .i64 (hi d)) (.int .u64 (lo d)) 38 := by rw [hV]; exact ((b3).other (b := w9.heap.size) (by omega) 0 (.int .u64 (hi (Y : Int)))).other (b := w9.heap.size) (by omega) 1 (.int .u64 (lo (Y : Int)))
    have b4N : Box2 V20 (w.heap.size + 1 + 1) (.int .i64 0) (.int .u64 0) 38 := by rw [hV]; exact ((b4).other (b := w9.heap.size) (by omega) 0 (.int .u64 (hi (Y : Int)))).other (b := w9.heap.size) (by omega) 1 (.int .u64 (lo (Y : Int)))
    have b5N : Box2 V20 (w.heap.size + 1 + 1 + 1) (.int .i64 0) (.int .u64 0) 38 := by rw [hV]; exact ((b5).other (b := w9.heap.size) (by omega) 0 (.int .u64 (hi (Y : Int)))).other (b := w9.heap.size) (by omega) 1 (.int .u64 (lo (Y : Int)))
    have b7N : Box2 V20 w2.heap.size (.int .u64 (hi (X : Int))) (.int .u64 (lo (X : Int))) 213 := by rw [hV]; exact ((b7).other (b := w9.heap.size) (by omega) 0 (.int .u64 (hi (Y : Int)))).other (b := w9.heap.size) (by omega) 1 (.int .u64 (lo (Y : Int)))
    have b9N : Box2 V20 w9.heap.size (.int .u64 (hi (Y : Int))) (.int .u64 (lo (Y : Int))) 213 := by rw [hV]; exact (b9).set (.int .u64 (hi (Y : Int))) (.int .u64 (lo (Y : Int)))
    have b11N : Box2 V20 w13.heap.size (.int .u64 (hi (G : Int))) (.int .u64 (lo (G : Int))) 213 := by rw [hV]; exact ((b11).other (b := w9.heap.size) (by omega) 0 (.int .u64 (hi (Y : Int)))).other (b := w9.heap.size) (by omega) 1 (.int .u64 (lo (Y : Int)))
    replace xw : Ext w V20 := by rw [hV]; exact Ext.set (Ext.set (xw) (k := w9.heap.size) (o := 0) (u := .int .u64 (hi (Y : Int))) (by omega)) (k := w9.heap.size) (o := 1) (u := .int .u64 (lo (Y : Int))) (by omega)
    replace b2 := b2N; clear b2N
    replace b3 := b3N; clear b3N
    replace b4 := b4N; clear b4N
    replace b5 := b5N; clear b5N
    replace b7 := b7N; clear b7N
    replace b9 := b9N; clear b9N
    replace b11 := b11N; clear b11N
    clear hV
    have b7_c0 := b7.c0
    have b7_c1 := b7.c1
    go_wp2_with fail
    refine (HSgd.out _ _ _ HUX.out).mono ?_
    rw [HP.out]
    rintro e w21 ⟨rfl, x21⟩
    rw [thi_no hP, tlo_no hP, ter_no hP]
    clear b7_c0 b7_c1
    replace b2 := b2.ext x21
    replace b3 := b3.ext x21
    replace b4 := b4.ext x21
    replace b5 := b5.ext x21
    replace b7 := b7.ext x21
    replace b9 := b9.ext x21
    replace b11 := b11.ext x21
    replace xw := Ext.trans xw x21
    go_upto_region 9 with fail
    have o23 := b11.kind.lt
    have o24 := xw.size
    refine wp_name ?_
    intro V22 hV
    have b2N : Box2 V22 w.heap.size (.int .i64 (hi n)) (.int .u64 (lo n)) 38 := by rw [hV]; exact (b2).alloc _
    have b3N : Box2 V22 (w.heap.size + 1) (.int .i64 (hi d)) (.int .u64 (lo d)) 38 := by rw [hV]; exact (b3).alloc _
    have b4N : Box2 V22 (w.heap.size + 1 + 1) (.int .i64 0) (.int .u64 0) 38 := by rw [hV]; exact (b4).alloc _
    have b5N : Box2 V22 (w.heap.size + 1 + 1 + 1) (.int .i64 0) (.int .u64 0) 38 := by rw [hV]; exact (b5).alloc _
    have b7N : Box2 V22 w2.heap.size (.int .u64 (hi (X : Int))) (.int .u64 (lo (X : Int))) 213 := by rw [hV]; exact (b7).alloc _
    have b9N : Box2 V22 w9.heap.size (.int .u64 (hi (Y : Int))) (.int .u64 (lo (Y : Int))) 213 := by rw [hV]; exact (b9).alloc _
    have b11N : Box2 V22 w13.heap.size (.int .u64 (hi (G : Int))) (.int .u64 (lo (G : Int))) 213 := by rw [hV]; exact (b11).alloc _
    replace xw : Ext w V22 := by rw [hV]; exact Ext.alloc (xw)
    replace b2 := b2N; clear b2N
    replace b3 := b3N; clear b3N
    replace b4 := b4N; clear b4N
    replace b5 := b5N; clear b5N
    replace b7 := b7N; clear b7N
    replace b9 := b9N; clear b9N
    replace b11 := b11N; clear b11N
    have b12 : Box2 V22 w21.heap.size (.int .i64 0) (.int .u64 0) 38 := by rw [hV]; exact Box2.new rfl
    clear hV
    have b9_c0 := b9.c0
    have b9_c1 := b9.c1
    go_wp2_with fail
    refine (HSgd.out _ _ _ HUY.out).mono ?_
    rw [HQ.out]
    rintro e w25 ⟨rfl, x25⟩
    rw [HT1.out, HT2.out, HT3.out]
    clear b9_c0 b9_c1
    replace b2 := b2.ext x25
    replace b3 := b3.ext x25
    replace b4 := b4.ext x25
    replace b5 := b5.ext x25
    replace b7 := b7.ext x25
    replace b9 := b9.ext x25
    replace b11 := b11.ext x25
    replace b12 := b12.ext x25
    replace xw := Ext.trans xw x25
    go_upto_region 10 with fail
    have o27 := b12.kind.lt
    have o28 := xw.size
    refine wp_name ?_
    intro V26 hV
    have b2N : Box2 V26 w.heap.size (.int .i64 (hi n)) (.int .u64 (lo n)) 38 := by rw [hV]; exact (b2).alloc _
    have b3N : Box2 V26 (w.heap.size + 1) (.int .i64 (hi d)) (.int .u64 (lo d)) 38 := by rw [hV]; exact (b3).alloc _
    have b4N : Box2 V26 (w.heap.size + 1 + 1) (.int .i64 0) (.int .u64 0) 38 := by rw [hV]; exact (b4).alloc _
    have b5N : Box2 V26 (w.heap.size + 1 + 1 + 1) (.int .i64 0) (.int .u64 0) 38 := by rw [hV]; exact (b5).alloc _
    have b7N : Box2 V26 w2.heap.size (.int .u64 (hi (X : Int))) (.int .u64 (lo (X : Int))) 213 := by rw [hV]; exact (b7).alloc _
    have b9N : Box2 V26 w9.heap.size (.int .u64 (hi (Y : Int))) (.int .u64 (lo (Y : Int))) 213 := by rw [hV]; exact (b9).alloc _
    have b11N : Box2 V26 w13.heap.size (.int .u64 (hi (G : Int))) (.int .u64 (lo (G : Int))) 213 := by rw [hV]; exact (b11).alloc _
    have b12N : Box2 V26 w21.heap.size (.int .i64 0) (.int .u64 0) 38 := by rw [hV]; exact (b12).alloc _
    replace xw : Ext w V26 := by rw [hV]; exact Ext.alloc (xw)
    replace b2 := b2N; clear b2N
    replace b3 := b3N; clear b3N
    replace b4 := b4N; clear b4N
    replace b5 := b5N; clear b5N
    replace b7 := b7N; clear b7N
    replace b9 := b9N; clear b9N
    replace b11 := b11N; clear b11N
    replace b12 := b12N; clear b12N
    have b14 : Box2 V26 w25.heap.size (.int .i64 t1) (.int .u64 t2) 38 := by rw [hV]; exact Box2.new rfl
    clear hV
    go_upto_region 11 with fail
    have b4_c0 := b4.c0
    have b4_c1 := b4.c1
    have b4_f0 := b4.f0
    have b4_f1 := b4.f1
    have b5_c0 := b5.c0
    have b5_c1 := b5.c1
    have b5_f0 := b5.f0
    have b5_f1 := b5.f1
    have xr := Ext.set (Ext.set (Ext.set (Ext.set (xw) (k := w.heap.size + 1 + 1) (o := 0) (u := .int .i64 0) (by omega)) (k := w.heap.size + 1 + 1) (o := 1) (u := .int .u64 0) (by omega)) (k := w.heap.size + 1 + 1 + 1) (o := 0) (u := .int .i64 0) (by omega)) (k := w.heap.size + 1 + 1 + 1) (o := 1) (u := .int .u64 0) (by omega)
    go_wp2_with fail
    refine bodyPost_ret (v := .tuple #[.agg #[.int .i64 0, .int .u64 0], .agg #[.int .i64 0, .int .u64 0], .int .i64 2]) (by simp [results, Try.results172, go_sem, b4_c0, b4_c1, b5_c0, b5_c1]) rfl (retFr_no H0.out (fun h => hP h.2.1) xr)
  · have g1 : (hi d == 0) = false := by simpa using hz1
    clear hz hz1
    go_enter Try.func172, Try.ntmps172
    go_upto_region 1 with fail
    have xw := Ext.refl w
    refine wp_name ?_
    intro V29 hV
    replace xw : Ext w V29 := by rw [hV]; exact Ext.alloc (Ext.alloc (Ext.alloc (Ext.alloc (xw))))
    have b2 : Box2 V29 w.heap.size (.int .i64 (hi n)) (.int .u64 (lo n)) 38 := by rw [hV]; exact (((Box2.new rfl).alloc _).alloc _).alloc _
    have b3 : Box2 V29 (w.heap.size + 1) (.int .i64 (hi d)) (.int .u64 (lo d)) 38 := by rw [hV]; exact ((Box2.new (by simp)).alloc _).alloc _
    have b4 : Box2 V29 (w.heap.size + 1 + 1) (.int .i64 0) (.int .u64 0) 38 := by rw [hV]; exact (Box2.new (by simp)).alloc _
    have b5 : Box2 V29 (w.heap.size + 1 + 1 + 1) (.int .i64 0) (.int .u64 0) 38 := by rw [hV]; exact Box2.new (by simp)
    clear hV
    have b3_c0 := b3.c0
    have b3_c1 := b3.c1
    go_upto_region 3 with fail
    clear b3_c0 b3_c1
    have b2_c0 := b2.c0
    have b2_c1 := b2.c1
    go_wp2_with fail
    refine (HPar.out n _ hn).mono ?_
    rw [HA.out]
    rintro e w30 ⟨rfl, x30⟩
    clear b2_c0 b2_c1
    replace b2 := b2.ext x30
    replace b3 := b3.ext x30
    replace b4 := b4.ext x30
    replace b5 := b5.ext x30
    replace xw := Ext.trans xw x30
    go_upto_region 4 with fail
    have o32 := b2.kind.lt
    have o33 := b3.kind.lt
    have o34 := b4.kind.lt
    have o35 := b5.kind.lt
    have o36 := xw.size
    refine wp_name ?_
    intro V31 hV
    have b2N : Box2 V31 w.heap.size (.int .i64 (hi n)) (.int .u64 (lo n)) 38 := by rw [hV]; exact (b2).alloc _
    have b3N : Box2 V31 (w.heap.size + 1) (.int .i64 (hi d)) (.int .u64 (lo d)) 38 := by rw [hV]; exact (b3).alloc _
    have b4N : Box2 V31 (w.heap.size + 1 + 1) (.int .i64 0) (.int .u64 0) 38 := by rw [hV]; exact (b4).alloc _
    have b5N : Box2 V31 (w.heap.size + 1 + 1 + 1) (.int .i64 0) (.int .u64 0) 38 := by rw [hV]; exact (b5).alloc _
    replace xw : Ext w V31 := by rw [hV]; exact Ext.alloc (xw)
    replace b2 := b2N; clear b2N
    replace b3 := b3N; clear b3N
    replace b4 := b4N; clear b4N
    replace b5 := b5N; clear b5N
    have b7 : Box2 V31 w30.heap.size (.int .u64 (hi (A : Int))) (.int .u64 (lo (A : Int))) 213 := by rw [hV]; exact Box2.new rfl
    clear hV
    have b3_c0 := b3.c0
    have b3_c1 := b3.c1
    go_wp2_with fail
    refine (HPar.out d _ hd).mono ?_
    rw [HD.out]
    rintro e w37 ⟨rfl, x37⟩
    clear b3_c0 b3_c1
    replace b2 := b2.ext x37
    replace b3 := b3.ext x37
    replace b4 := b4.ext x37
    replace b5 := b5.ext x37
    replace b7 := b7.ext x37
    replace xw := Ext.trans xw x37
    go_upto_region 5 with fail
    have o39 := b7.kind.lt
    have o40 := xw.size
    refine wp_name ?_
    intro V38 hV
    have b2N : Box2 V38 w.heap.size (.int .i64 (hi n)) (.int .u64 (lo n)) 38 := by rw [hV]; exact (b2).alloc _
    have b3N : Box2 V38 (w.heap.size + 1) (.int .i64 (hi d)) (.int .u64 (lo d)) 38 := by rw [hV]; exact (b3).alloc _
    have b4N : Box2 V38 (w.heap.size + 1 + 1) (.int .i64 0) (.int .u64 0) 38 := by rw [hV]; exact (b4).alloc _
    have b5N : Box2 V38 (w.heap.size + 1 + 1 + 1) (.int .i64 0) (.int .u64 0) 38 := by rw [hV]; exact (b5).alloc _
    have b7N : Box2 V38 w30.heap.size (.int .u64 (hi (A : Int))) (.int .u64 (lo (A : Int))) 213 := by rw [hV]; exact (b7).alloc _
    replace xw : Ext w V38 := by rw [hV]; exact Ext.alloc (xw)
    replace b2 := b2N; clear b2N
    replace b3 := b3N; clear b3N
    replace b4 := b4N; clear b4N
    replace b5 := b5N; clear b5N
    replace b7 := b7N; clear b7N
    have b9 : Box2 V38 w37.heap.size (.int .u64 (hi (D : Int))) (.int .u64 (lo (D : Int))) 213 := by rw [hV]; exact Box2.new rfl
    clear hV
    have b7_c0 := b7.c0
    have b7_c1 := b7.c1
    have b9_c0 := b9.c0
    have b9_c1 := b9.c1
    go_wp2_with fail
    refine (HGc.out 170141183460469231731687303715884105728 A D _ HBd.out.1 HBd.out.2 HOT.out).mono ?_
    rw [HG.out]
    rintro e w41 ⟨rfl, x41⟩
    clear b7_c0 b7_c1 b9_c0 b9_c1
    replace b2 := b2.ext x41
    replace b3 := b3.ext x41
    replace b4 := b4.ext x41
    replace b5 := b5.ext x41
    replace b7 := b7.ext x41
    replace b9 := b9.ext x41
    replace xw := Ext.trans xw x41
    go_upto_region 6 with fail
    have o43 := b9.kind.lt
    have o44 := xw.size
    refine wp_name ?_
    intro V42 hV
    have b2N : Box2 V42 w.heap.size (.int .i64 (hi n)) (.int .u64 (lo n)) 38 := by rw [hV]; exact (b2).alloc _
    have b3N : Box2 V42 (w.heap.size + 1) (.int .i64 (hi d)) (.int .u64 (lo d)) 38 := by rw [hV]; exact (b3).alloc _
    have b4N : Box2 V42 (w.heap.size + 1 + 1) (.int .i64 0) (.int .u64 0) 38 := by rw [hV]; exact (b4).alloc _
    have b5N : Box2 V42 (w.heap.size + 1 + 1 + 1) (.int .i64 0) (.int .u64 0) 38 := by rw [hV]; exact (b5).alloc _
    have b7N : Box2 V42 w30.heap.size (.int .u64 (hi (A : Int))) (.int .u64 (lo (A : Int))) 213 := by rw [hV]; exact (b7).alloc _
    have b9N : Box2 V42 w37.heap.size (.int .u64 (hi (D : Int))) (.int .u64 (lo (D : Int))) 213 := by rw [hV]; exact (b9).alloc _
    replace xw : Ext w V42 := by rw [hV]; exact Ext.alloc (xw)
    replace b2 := b2N; clear b2N
    replace b3 := b3N; clear b3N
    replace b4 := b4N; clear b4N
    replace b5 := b5N; clear b5N
    replace b7 := b7N; clear b7N
    replace b9 := b9N; clear b9N
    have b11 : Box2 V42 w41.heap.size (.int .u64 (hi (G : Int))) (.int .u64 (lo (G : Int))) 213 := by rw [hV]; exact Box2.new rfl
    clear hV
    have b7_c0 := b7.c0
    have b7_c1 := b7.c1
    have b11_c0 := b11.c0
    have b11_c1 := b11.c1
    go_wp2_with fail
    refine (HO1.out _).mono ?_
    rw [HX.out, HR1.out]
    rintro e w45 ⟨rfl, x45⟩
    clear b7_c0 b7_c1 b11_c0 b11_c1
    replace b2 := b2.ext x45
    replace b3 := b3.ext x45
    replace b4 := b4.ext x45
    replace b5 := b5.ext x45
    replace b7 := b7.ext x45
    replace b9 := b9.ext x45
    replace b11 := b11.ext x45
    replace xw := Ext.trans xw x45
    have b7_c0 := b7.c0
    have b7_c1 := b7.c1
    have b7_f0 := b7.f0
    have b7_f1 := b7.f1
    go_upto_region 7 with fail
    clear b7_c0 b7_c1 b7_f0 b7_f1
    refine wp_name ?_
    intro V46 hV
    have b2N : Box2 V46 w.heap.size (.int .i64 (hi n)) (.int .u64 (lo n)) 38 := by rw [hV]; exact ((b2).other (b := w30.heap.size) (by omega) 0 (.int .u64 (hi (X : Int)))).other (b := w30.heap.size) (by omega) 1 (.int .u64 (lo (X : Int)))
    have b3N : Box2 V46 (w.heap.size + 1) (.int .i64 (hi d)) (.int .u64 (lo d)) 38 := by rw [hV]; exact ((b3).other (b := w30.heap.size) (by omega) 0 (.int .u64 (hi (X : Int)))).other (b := w30.heap.size) (by omega) 1 (.int .u64 (lo (X : Int)))
    have b4N : Box2 V46 (w.heap.size + 1 + 1) (.int .i64 0) (.int .u64 0) 38 := by rw [hV]; exact ((b4).other (b := w30.heap.size) (by omega) 0 (.int .u64 (hi (X : Int)))).other (b := w30.heap.size) (by omega) 1 (.int .u64 (lo (X : Int)))
    have b5N : Box2 V46 (w.heap.size + 1 + 1 + 1) (.int .i64 0) (.int .u64 0) 38 := by rw [hV]; exact ((b5).other (b := w30.heap.size) (by omega) 0 (.int .u64 (hi (X : Int)))).other (b := w30.heap.size) (by omega) 1 (.int .u64 (lo (X : Int)))
    have b7N : Box2 V46 w30.heap.size (.int .u64 (hi (X : Int))) (.int .u64 (lo (X : Int))) 213 := by rw [hV]; exact (b7).set (.int .u64 (hi (X : Int))) (.int .u64 (lo (X : Int)))
    have b9N : Box2 V46 w37.heap.size (.int .u64 (hi (D : Int))) (.int .u64 (lo (D : Int))) 213 := by rw [hV]; exact ((b9).other (b := w30.heap.size) (by omega) 0 (.int .u64 (hi (X : Int)))).other (b := w30.heap.size) (by omega) 1 (.int .u64 (lo (X : Int)))
    have b11N : Box2 V46 w41.heap.size (.int .u64 (hi (G : Int))) (.int .u64 (lo (G : Int))) 213 := by rw [hV]; exact ((b11).other (b := w30.heap.size) (by omega) 0 (.int .u64 (hi (X : Int)))).other (b := w30.heap.size) (by omega) 1 (.int .u64 (lo (X : Int)))
    replace xw : Ext w V46 := by rw [hV]; exact Ext.set (Ext.set (xw) (k := w30.heap.size) (o := 0) (u := .int .u64 (hi (X : Int))) (by omega)) (k := w30.heap.size) (o := 1) (u := .int .u64 (lo (X : Int))) (by omega)
    replace b2 := b2N; clear b2N
    replace b3 := b3N; clear b3N
    replace b4 := b4N; clear b4N
    replace b5 := b5N; clear b5N
    replace b7 := b7N; clear b7N
    replace b9 := b9N; clear b9N
    replace b11 := b11N; clear b11N
    clear hV
    have b9_c0 := b9.c0
    have b9_c1 := b9.c1
    have b11_c0 := b11.c0
    have b11_c1 := b11.c1
    go_wp2_with fail
    refine (HO2.out _).mono ?_
    rw [HY.out, HR2.out]
    rintro e w47 ⟨rfl, x47⟩
    clear b9_c0 b9_c1 b11_c0 b11_c1
    replace b2 := b2.ext x47
    replace b3 := b3.ext x47
    replace b4 := b4.ext x47
    replace b5 := b5.ext x47
    replace b7 := b7.ext x47
    replace b9 := b9.ext x47
    replace b11 := b11.ext x47
    replace xw := Ext.trans xw x47
    have b9_c0 := b9.c0
    have b9_c1 := b9.c1
    have b9_f0 := b9.f0
    have b9_f1 := b9.f1
    go_upto_region 8 with fail
    clear b9_c0 b9_c1 b9_f0 b9_f1
    refine wp_name ?_
    intro V48 hV
    have b2N : Box2 V48 w.heap.size (.int .i64 (hi n)) (.int .u64 (lo n)) 38 := by rw [hV]; exact ((b2).other (b := w37.heap.size) (by omega) 0 (.int .u64 (hi (Y : Int)))).other (b := w37.heap.size) (by omega) 1 (.int .u64 (lo (Y : Int)))
    have b3N : Box2 V48 (w.heap.size + 1) (.int .i64 (hi d)) (.int .u64 (lo d)) 38 := by rw [hV]; exact ((b3).other (b := w37.heap.size) (by omega) 0 (.int .u64 (hi (Y : Int)))).other (b := w37.heap.size) (by omega) 1 (.int .u64 (lo (Y : Int)))
    have b4N : Box2 V48 (w.heap.size + 1 + 1) (.int .i64 0) (.int .u64 0) 38 := by rw [hV]; exact ((b4).other (b := w37.heap.size) (by omega) 0 (.int .u64 (hi (Y : Int)))).other (b := w37.heap.size) (by omega) 1 (.int .u64 (lo (Y : Int)))
    have b5N : Box2 V48 (w.heap.size + 1 + 1 + 1) (.int .i64 0) (.int .u64 0) 38 := by rw [hV]; exact ((b5).other (b := w37.heap.size) (by omega) 0 (.int .u64 (hi (Y : Int)))).other (b := w37.heap.size) (by omega) 1 (.int .u64 (lo (Y : Int)))
    have b7N : Box2 V48 w30.heap.size (.int .u64 (hi (X : Int))) (.int .u64 (lo (X : Int))) 213 := by rw [hV]; exact ((b7).other (b := w37.heap.size) (by omega) 0 (.int .u64 (hi (Y : Int)))).other (b := w37.heap.size) (by omega) 1 (.int .u64 (lo (Y : Int)))
    have b9N : Box2 V48 w37.heap.size (.int .u64 (hi (Y : Int))) (.int .u64 (lo (Y : Int))) 213 := by rw [hV]; exact (b9).set (.int .u64 (hi (Y : Int))) (.int .u64 (lo (Y : Int)))
    have b11N : Box2 V48 w41.heap.size (.int .u64 (hi (G : Int))) (.int .u64 (lo (G : Int))) 213 := by rw [hV]; exact ((b11).other (b := w37.heap.size) (by omega) 0 (.int .u64 (hi (Y : Int)))).other (b := w37.heap.size) (by omega) 1 (.int .u64 (lo (Y : Int)))
    replace xw : Ext w V48 := by rw [hV]; exact Ext.set (Ext.set (xw) (k := w37.heap.size) (o := 0) (u := .int .u64 (hi (Y : Int))) (by omega)) (k := w37.heap.size) (o := 1) (u := .int .u64 (lo (Y : Int))) (by omega)
    replace b2 := b2N; clear b2N
    replace b3 := b3N; clear b3N
    replace b4 := b4N; clear b4N
    replace b5 := b5N; clear b5N
    replace b7 := b7N; clear b7N
    replace b9 := b9N; clear b9N
    replace b11 := b11N; clear b11N
    clear hV
    have b7_c0 := b7.c0
    have b7_c1 := b7.c1
    go_wp2_with fail
    refine (HSgd.out _ _ _ HUX.out).mono ?_
    rw [HP.out]
    rintro e w49 ⟨rfl, x49⟩
    rw [thi_no hP, tlo_no hP, ter_no hP]
    clear b7_c0 b7_c1
    replace b2 := b2.ext x49
    replace b3 := b3.ext x49
    replace b4 := b4.ext x49
    replace b5 := b5.ext x49
    replace b7 := b7.ext x49
    replace b9 := b9.ext x49
    replace b11 := b11.ext x49
    replace xw := Ext.trans xw x49
    go_upto_region 9 with fail
    have o51 := b11.kind.lt
    have o52 := xw.size
    refine wp_name ?_
    intro V50 hV
    have b2N : Box2 V50 w.heap.size (.int .i64 (hi n)) (.int .u64 (lo n)) 38 := by rw [hV]; exact (b2).alloc _
    have b3N : Box2 V50 (w.heap.size + 1) (.int .i64 (hi d)) (.int .u64 (lo d)) 38 := by rw [hV]; exact (b3).alloc _
    have b4N : Box2 V50 (w.heap.size + 1 + 1) (.int .i64 0) (.int .u64 0) 38 := by rw [hV]; exact (b4).alloc _
    have b5N : Box2 V50 (w.heap.size + 1 + 1 + 1) (.int .i64 0) (.int .u64 0) 38 := by rw [hV]; exact (b5).alloc _
    have b7N : Box2 V50 w30.heap.size (.int .u64 (hi (X : Int))) (.int .u64 (lo (X : Int))) 213 := by rw [hV]; exact (b7).alloc _
    have b9N : Box2 V50 w37.heap.size (.int .u64 (hi (Y : Int))) (.int .u64 (lo (Y : Int))) 213 := by rw [hV]; exact (b9).alloc _
    have b11N : Box2 V50 w41.heap.size (.int .u64 (hi (G : Int))) (.int .u64 (lo (G : Int))) 213 := by rw [hV]; exact (b11).alloc _
    replace xw : Ext w V50 := by rw [hV]; exact Ext.alloc (xw)
    replace b2 := b2N; clear b2N
    replace b3 := b3N; clear b3N
    replace b4 := b4N; clear b4N
    replace b5 := b5N; clear b5N
    replace b7 := b7N; clear b7N
    replace b9 := b9N; clear b9N
    replace b11 := b11N; clear b11N
    have b12 : Box2 V50 w49.heap.size (.int .i64 0) (.int .u64 0) 38 := by rw [hV]; exact Box2.new rfl
    clear hV
    have b9_c0 := b9.c0
    have b9_c1 := b9.c1
    go_wp2_with fail
    refine (HSgd.out _ _ _ HUY.out).mono ?_
    rw [HQ.out]
    rintro e w53 ⟨rfl, x53⟩
    rw [HT1.out, HT2.out, HT3.out]
    clear b9_c0 b9_c1
    replace b2 := b2.ext x53
    replace b3 := b3.ext x53
    replace b4 := b4.ext x53
    replace b5 := b5.ext x53
    replace b7 := b7.ext x53
    replace b9 := b9.ext x53
    replace b11 := b11.ext x53
    replace b12 := b12.ext x53
    replace xw := Ext.trans xw x53
    go_upto_region 10 with fail
    have o55 := b12.kind.lt
    have o56 := xw.size
    refine wp_name ?_
    intro V54 hV
    have b2N : Box2 V54 w.heap.size (.int .i64 (hi n)) (.int .u64 (lo n)) 38 := by rw [hV]; exact (b2).alloc _
    have b3N : Box2 V54 (w.heap.size + 1) (.int .i64 (hi d)) (.int .u64 (lo d)) 38 := by rw [hV]; exact (b3).alloc _
    have b4N : Box2 V54 (w.heap.size + 1 + 1) (.int .i64 0) (.int .u64 0) 38 := by rw [hV]; exact (b4).alloc _
    have b5N : Box2 V54 (w.heap.size + 1 + 1 + 1) (.int .i64 0) (.int .u64 0) 38 := by rw [hV]; exact (b5).alloc _
    have b7N : Box2 V54 w30.heap.size (.int .u64 (hi (X : Int))) (.int .u64 (lo (X : Int))) 213 := by rw [hV]; exact (b7).alloc _
    have b9N : Box2 V54 w37.heap.size (.int .u64 (hi (Y : Int))) (.int .u64 (lo (Y : Int))) 213 := by rw [hV]; exact (b9).alloc _
    have b11N : Box2 V54 w41.heap.size (.int .u64 (hi (G : Int))) (.int .u64 (lo (G : Int))) 213 := by rw [hV]; exact (b11).alloc _
    have b12N : Box2 V54 w49.heap.size (.int .i64 0) (.int .u64 0) 38 := by rw [hV]; exact (b12).alloc _
    replace xw : Ext w V54 := by rw [hV]; exact Ext.alloc (xw)
    replace b2 := b2N; clear b2N
    replace b3 := b3N; clear b3N
    replace b4 := b4N; clear b4N
    replace b5 := b5N; clear b5N
    replace b7 := b7N; clear b7N
    replace b9 := b9N; clear b9N
    replace b11 := b11N; clear b11N
    replace b12 := b12N; clear b12N
    have b14 : Box2 V54 w53.heap.size (.int .i64 t1) (.int .u64 t2) 38 := by rw [hV]; exact Box2.new rfl
    clear hV
    go_upto_region 11 with fail
    have b4_c0 := b4.c0
    have b4_c1 := b4.c1
    have b4_f0 := b4.f0
    have b4_f1 := b4.f1
    have b5_c0 := b5.c0
    have b5_c1 := b5.c1
    have b5_f0 := b5.f0
    have b5_f1 := b5.f1
    have xr := Ext.set (Ext.set (Ext.set (Ext.set (xw) (k := w.heap.size + 1 + 1) (o := 0) (u := .int .i64 0) (by omega)) (k := w.heap.size + 1 + 1) (o := 1) (u := .int .u64 0) (by omega)) (k := w.heap.size + 1 + 1 + 1) (o := 0) (u := .int .i64 0) (by omega)) (k := w.heap.size + 1 + 1 + 1) (o := 1) (u := .int .u64 0) (by omega)
    go_wp2_with fail
    refine bodyPost_ret (v := .tuple #[.agg #[.int .i64 0, .int .u64 0], .agg #[.int .i64 0, .int .u64 0], .int .i64 2]) (by simp [results, Try.results172, go_sem, b4_c0, b4_c1, b5_c0, b5_c1]) rfl (retFr_no H0.out (fun h => hP h.2.1) xr)
set_option maxRecDepth 100000 in
set_option maxHeartbeats 3200000 in
theorem dfrac_no2 (n d : Int) (w : World) (hn : W128 n) (hd : W128 d) (h0 : d ≠ 0) (hP : W128 (frP n d)) (hQ : ¬ W128 (frQ n d)) :
    Calls Try.prog 172 #[.agg #[.int .i64 (hi n), .int .u64 (lo n)], .agg #[.int .i64 (hi d), .int .u64 (lo d)]] w (RetFr w n d) := by
  have HPar := Lib.hid dparts
  have HGc := Lib.hid dgcd
  have HSgd := Lib.hid dsigned
  have HOT := Lib.hid (overTo_all (M := 170141183460469231731687303715884105728) (Nat.le_refl _))
  have HBd := Lib.hid (show n.natAbs ≤ 170141183460469231731687303715884105728 ∧ d.natAbs ≤ 170141183460469231731687303715884105728 by unfold W128 at hn hd; omega)
  obtain ⟨A, hA⟩ : ∃ A : Nat, A = n.natAbs := ⟨_, rfl⟩
  obtain ⟨D, hD⟩ : ∃ D : Nat, D = d.natAbs := ⟨_, rfl⟩
  obtain ⟨G, hG⟩ : ∃ G : Nat, G = Nat.gcd A D := ⟨_, rfl⟩
  obtain ⟨X, hX⟩ : ∃ X : Nat, X = A / G := ⟨_, rfl⟩
  obtain ⟨Y, hY⟩ : ∃ Y : Nat, Y = D / G := ⟨_, rfl⟩
  have hg : 0 < G := by rw [hG, hA, hD]; exact gcd_pos h0
  have hg2 : G ≤ D := by rw [hG]; exact Nat.gcd_le_right _ (by omega)
  rw [← hA, ← hD] at HBd
  have HA := Lib.hid (show mag n = (A : Int) by rw [hA]; exact mag_abs n)
  have HD := Lib.hid (show mag d = (D : Int) by rw [hD]; exact mag_abs d)
  have HG := Lib.hid (show ((Nat.gcd A D : Nat) : Int) = (G : Int) by rw [hG])
  have HO1 := Lib.hid (show OverC (A : Int) (G : Int) from HOT.out A G HBd.out.1 hg (Nat.le_trans hg2 HBd.out.2))
  have HO2 := Lib.hid (show OverC (D : Int) (G : Int) from HOT.out D G HBd.out.2 hg (Nat.le_trans hg2 HBd.out.2))
  have HX := Lib.hid (show (A : Int) / (G : Int) = (X : Int) by rw [hX]; omega)
  have HY := Lib.hid (show (D : Int) / (G : Int) = (Y : Int) by rw [hY]; omega)
  have HUX := Lib.hid (show U128 (X : Int) by have := Nat.div_le_self A G; have := HBd.out.1; unfold U128; omega)
  have HUY := Lib.hid (show U128 (Y : Int) by have := Nat.div_le_self D G; have := HBd.out.2; unfold U128; omega)
  have HP := Lib.hid (show wsg (!(decide (n < 0) == decide (d < 0))) (X : Int) = frP n d by unfold frP; rw [hX, hG, hA, hD])
  have HQ := Lib.hid (show wsg false (Y : Int) = frQ n d by unfold frQ; rw [hY, hG, hA, hD]; rfl)
  obtain ⟨r1, e1⟩ : ∃ r, (A : Int) % (G : Int) = r := ⟨_, rfl⟩
  obtain ⟨r2, e2⟩ : ∃ r, (D : Int) % (G : Int) = r := ⟨_, rfl⟩
  have HR1 := Lib.hid e1
  have HR2 := Lib.hid e2
  obtain ⟨t1, e3⟩ : ∃ r, thi (frQ n d) = r := ⟨_, rfl⟩
  obtain ⟨t2, e4⟩ : ∃ r, tlo (frQ n d) = r := ⟨_, rfl⟩
  obtain ⟨t3, e5⟩ : ∃ r, ter (frQ n d) = r := ⟨_, rfl⟩
  have HT1 := Lib.hid e3
  have HT2 := Lib.hid e4
  have HT3 := Lib.hid e5
  have H0 := Lib.hid h0
  have hz : ¬ (hi d = 0 ∧ lo d = 0) := by rintro ⟨g1, g2⟩; have := hi_lo d; omega
  clear hA hD hG hX hY e1 e2 e3 e4 e5 h0 hg hg2
  by_cases hz1 : hi d = 0
  · have g1 : (hi d == 0) = true := by simpa using hz1
    have g2 : (lo d == 0) = false := by simpa using fun h => hz ⟨hz1, h⟩
    clear hz hz1
    go_enter Try.func172, Try.ntmps172
    go_upto_region 1 with fail
    have xw := Ext.refl w
    refine wp_name ?_
    intro V1 hV
    replace xw : Ext w V1 := by rw [hV]; exact Ext.alloc (Ext.alloc (Ext.alloc (Ext.alloc (xw))))
    have b2 : Box2 V1 w.heap.size (.int .i64 (hi n)) (.int .u64 (lo n)) 38 := by rw [hV]; exact (((Box2.new rfl).alloc _).alloc _).alloc _
    have b3 : Box2 V1 (w.heap.size + 1) (.int .i64 (hi d)) (.int .u64 (lo d)) 38 := by rw [hV]; exact ((Box2.new (by simp)).alloc _).alloc _
    have b4 : Box2 V1 (w.heap.size + 1 + 1) (.int .i64 0) (.int .u64 0) 38 := by rw [hV]; exact (Box2.new (by simp)).alloc _
    have b5 : Box2 V1 (w.heap.size + 1 + 1 + 1) (.int .i64 0) (.int .u64 0) 38 := by rw [hV]; exact Box2.new (by simp)
    clear hV
    have b3_c0 := b3.c0
    have b3_c1 := b3.c1
    go_upto_region 3 with fail
    clear b3_c0 b3_c1
    have b2_c0 := b2.c0
    have b2_c1 := b2.c1
    go_wp2_with fail
    refine (HPar.out n _ hn).mono ?_
    rw [HA.out]
    rintro e w2 ⟨rfl, x2⟩
    clear b2_c0 b2_c1
    replace b2 := b2.ext x2
    replace b3 := b3.ext x2
    replace b4 := b4.ext x2
    replace b5 := b5.ext x2
    replace xw := Ext.trans xw x2
    go_upto_region 4 with fail
    have o4 := b2.kind.lt
    have o5 := b3.kind.lt
    have o6 := b4.kind.lt
    have o7 := b5.kind.lt
    have o8 := xw.size
    refine wp_name ?_
    intro V3 hV
    have b2N : Box2 V3 w.heap.size (.int .i64 (hi n)) (.int .u64 (lo n)) 38 := by rw [hV]; exact (b2).alloc _
    have b3N : Box2 V3 (w.heap.size + 1) (.int .i64 (hi d)) (.int .u64 (lo d)) 38 := by rw [hV]; exact (b3).alloc _
    have b4N : Box2 V3 (w.heap.size + 1 + 1) (.int .i64 0) (.int .u64 0) 38 := by rw [hV]; exact (b4).alloc _
    have b5N : Box2 V3 (w.heap.size + 1 + 1 + 1) (.int .i64 0) (.int .u64 0) 38 := by rw [hV]; exact (b5).alloc _
    replace xw : Ext w V3 := by rw [hV]; exact Ext.alloc (xw)
    replace b2 := b2N; clear b2N
    replace b3 := b3N; clear b3N
    replace b4 := b4N; clear b4N
    replace b5 := b5N; clear b5N
    have b7 : Box2 V3 w2.heap.size (.int .u64 (hi (A : Int))) (.int .u64 (lo (A : Int))) 213 := by rw [hV]; exact Box2.new rfl
    clear hV
    have b3_c0 := b3.c0
    have b3_c1 := b3.c1
    go_wp2_with fail
    refine (HPar.out d _ hd).mono ?_
    rw [HD.out]
    rintro e w9 ⟨rfl, x9⟩
    clear b3_c0 b3_c1
    replace b2 := b2.ext x9
    replace b3 := b3.ext x9
    replace b4 := b4.ext x9
    replace b5 := b5.ext x9
    replace b7 := b7.ext x9
    replace xw := Ext.trans xw x9
    go_upto_region 5 with fail
    have o11 := b7.kind.lt
    have o12 := xw.size
    refine wp_name ?_
    intro V10 hV
    have b2N : Box2 V10 w.heap.size (.int .i64 (hi n)) (.int .u64 (lo n)) 38 := by rw [hV]; exact (b2).alloc _
    have b3N : Box2 V10 (w.heap.size + 1) (.int .i64 (hi d)) (.int .u64 (lo d)) 38 := by rw [hV]; exact (b3).alloc _
    have b4N : Box2 V10 (w.heap.size + 1 + 1) (.int .i64 0) (.int .u64 0) 38 := by rw [hV]; exact (b4).alloc _
    have b5N : Box2 V10 (w.heap.size + 1 + 1 + 1) (.int .i64 0) (.int .u64 0) 38 := by rw [hV]; exact (b5).alloc _
    have b7N : Box2 V10 w2.heap.size (.int .u64 (hi (A : Int))) (.int .u64 (lo (A : Int))) 213 := by rw [hV]; exact (b7).alloc _
    replace xw : Ext w V10 := by rw [hV]; exact Ext.alloc (xw)
    replace b2 := b2N; clear b2N
    replace b3 := b3N; clear b3N
    replace b4 := b4N; clear b4N
    replace b5 := b5N; clear b5N
    replace b7 := b7N; clear b7N
    have b9 : Box2 V10 w9.heap.size (.int .u64 (hi (D : Int))) (.int .u64 (lo (D : Int))) 213 := by rw [hV]; exact Box2.new rfl
    clear hV
    have b7_c0 := b7.c0
    have b7_c1 := b7.c1
    have b9_c0 := b9.c0
    have b9_c1 := b9.c1
    go_wp2_with fail
    refine (HGc.out 170141183460469231731687303715884105728 A D _ HBd.out.1 HBd.out.2 HOT.out).mono ?_
    rw [HG.out]
    rintro e w13 ⟨rfl, x13⟩
    clear b7_c0 b7_c1 b9_c0 b9_c1
    replace b2 := b2.ext x13
    replace b3 := b3.ext x13
    replace b4 := b4.ext x13
    replace b5 := b5.ext x13
    replace b7 := b7.ext x13
    replace b9 := b9.ext x13
    replace xw := Ext.trans xw x13
    go_upto_region 6 with fail
    have o15 := b9.kind.lt
    have o16 := xw.size
    refine wp_name ?_
    intro V14 hV
    have b2N : Box2 V14 w.heap.size (.int .i64 (hi n)) (.int .u64 (lo n)) 38 := by rw [hV]; exact (b2).alloc _
    have b3N : Box2 V14 (w.heap.size + 1) (.int .i64 (hi d)) (.int .u64 (lo d)) 38 := by rw [hV]; exact (b3).alloc _
    have b4N : Box2 V14 (w.heap.size + 1 + 1) (.int .i64 0) (.int .u64 0) 38 := by rw [hV]; exact (b4).alloc _
    have b5N : Box2 V14 (w.heap.size + 1 + 1 + 1) (.int .i64 0) (.int .u64 0) 38 := by rw [hV]; exact (b5).alloc _
    have b7N : Box2 V14 w2.heap.size (.int .u64 (hi (A : Int))) (.int .u64 (lo (A : Int))) 213 := by rw [hV]; exact (b7).alloc _
    have b9N : Box2 V14 w9.heap.size (.int .u64 (hi (D : Int))) (.int .u64 (lo (D : Int))) 213 := by rw [hV]; exact (b9).alloc _
    replace xw : Ext w V14 := by rw [hV]; exact Ext.alloc (xw)
    replace b2 := b2N; clear b2N
    replace b3 := b3N; clear b3N
    replace b4 := b4N; clear b4N
    replace b5 := b5N; clear b5N
    replace b7 := b7N; clear b7N
    replace b9 := b9N; clear b9N
    have b11 : Box2 V14 w13.heap.size (.int .u64 (hi (G : Int))) (.int .u64 (lo (G : Int))) 213 := by rw [hV]; exact Box2.new rfl
    clear hV
    have b7_c0 := b7.c0
    have b7_c1 := b7.c1
    have b11_c0 := b11.c0
    have b11_c1 := b11.c1
    go_wp2_with fail
    refine (HO1.out _).mono ?_
    rw [HX.out, HR1.out]
    rintro e w17 ⟨rfl, x17⟩
    clear b7_c0 b7_c1 b11_c0 b11_c1
    replace b2 := b2.ext x17
    replace b3 := b3.ext x17
    replace b4 := b4.ext x17
    replace b5 := b5.ext x17
    replace b7 := b7.ext x17
    replace b9 := b9.ext x17
    replace b11 := b11.ext x17
    replace xw := Ext.trans xw x17
    have b7_c0 := b7.c0
    have b7_c1 := b7.c1
    have b7_f0 := b7.f0
    have b7_f1 := b7.f1
    go_upto_region 7 with fail
    clear b7_c0 b7_c1 b7_f0 b7_f1
    refine wp_name ?_
    intro V18 hV
    have b2N : Box2 V18 w.heap.size (.int .i64 (hi n)) (.int .u64 (lo n)) 38 := by rw [hV]; exact ((b2).other (b := w2.heap.size) (by omega) 0 (.int .u64 (hi (X : Int)))).other (b := w2.heap.size) (by omega) 1 (.int .u64 (lo (X : Int)))
    have b3N : Box2 V18 (w.heap.size + 1) (.int .i64 (hi d)) (.int .u64 (lo d)) 38 := by rw [hV]; exact ((b3).other (b := w2.heap.size) (by omega) 0 (.int .u64 (hi (X : Int)))).other (b := w2.heap.size) (by omega) 1 (.int .u64 (lo (X : Int)))
    have b4N : Box2 V18 (w.heap.size + 1 + 1) (.int .i64 0) (.int .u64 0) 38 := by rw [hV]; exact ((b4).other (b := w2.heap.size) (by omega) 0 (.int .u64 (hi (X : Int)))).other (b := w2.heap.size) (by omega) 1 (.int .u64 (lo (X : Int)))
    have b5N : Box2 V18 (w.heap.size + 1 + 1 + 1) (.int .i64 0) (.int .u64 0) 38 := by rw [hV]; exact ((b5).other (b := w2.heap.size) (by omega) 0 (.int .u64 (hi (X : Int)))).other (b := w2.heap.size) (by omega) 1 (.int .u64 (lo (X : Int)))
    have b7N : Box2 V18 w2.heap.size (.int .u64 (hi (X : Int))) (.int .u64 (lo (X : Int))) 213 := by rw [hV]; exact (b7).set (.int .u64 (hi (X : Int))) (.int .u64 (lo (X : Int)))
    have b9N : Box2 V18 w9.heap.size (.int .u64 (hi (D : Int))) (.int .u64 (lo (D : Int))) 213 := by rw [hV]; exact ((b9).other (b := w2.heap.size) (by omega) 0 (.int .u64 (hi (X : Int)))).other (b := w2.heap.size) (by omega) 1 (.int .u64 (lo (X : Int)))
    have b11N : Box2 V18 w13.heap.size (.int .u64 (hi (G : Int))) (.int .u64 (lo (G : Int))) 213 := by rw [hV]; exact ((b11).other (b := w2.heap.size) (by omega) 0 (.int .u64 (hi (X : Int)))).other (b := w2.heap.size) (by omega) 1 (.int .u64 (lo (X : Int)))
    replace xw : Ext w V18 := by rw [hV]; exact Ext.set (Ext.set (xw) (k := w2.heap.size) (o := 0) (u := .int .u64 (hi (X : Int))) (by omega)) (k := w2.heap.size) (o := 1) (u := .int .u64 (lo (X : Int))) (by omega)
    replace b2 := b2N; clear b2N
    replace b3 := b3N; clear b3N
    replace b4 := b4N; clear b4N
    replace b5 := b5N; clear b5N
    replace b7 := b7N; clear b7N
    replace b9 := b9N; clear b9N
    replace b11 := b11N; clear b11N
    clear hV
    have b9_c0 := b9.c0
    have b9_c1 := b9.c1
    have b11_c0 := b11.c0
    have b11_c1 := b11.c1
    go_wp2_with fail
    refine (HO2.out _).mono ?_
    rw [HY.out, HR2.out]
    rintro e w19 ⟨rfl, x19⟩
    clear b9_c0 b9_c1 b11_c0 b11_c1
    replace b2 := b2.ext x19
    replace b3 := b3.ext x19
    replace b4 := b4.ext x19
    replace b5 := b5.ext x19
    replace b7 := b7.ext x19
    replace b9 := b9.ext x19
    replace b11 := b11.ext x19
    replace xw := Ext.trans xw x19
    have b9_c0 := b9.c0
    have b9_c1 := b9.c1
    have b9_f0 := b9.f0
    have b9_f1 := b9.f1
    go_upto_region 8 with fail
    clear b9_c0 b9_c1 b9_f0 b9_f1
    refine wp_name ?_
    intro V20 hV
    have b2N : Box2 V20 w.heap.size (.int .i64 (hi n)) (.int .u64 (lo n)) 38 := by rw [hV]; exact ((b2).other (b := w9.heap.size) (by omega) 0 (.int .u64 (hi (Y : Int)))).other (b := w9.heap.size) (by omega) 1 (.int .u64 (lo (Y : Int)))
    have b3N : Box2 V20 (w.heap.size + 1) (.int .i64 (hi d)) (.int .u64 (lo d)) 38 := by rw [hV]; exact ((b3).other (b := w9.heap.size) (by omega) 0 (.int .u64 (hi (Y : Int)))).other (b := w9.heap.size) (by omega) 1 (.int .u64 (lo (Y : Int)))
    have b4N : Box2 V20 (w.heap.size + 1 + 1) (.int .i64 0) (.int .u64 0) 38 := by rw [hV]; exact ((b4).other (b := w9.heap.size) (by omega) 0 (.int .u64 (hi (Y : Int)))).other (b := w9.heap.size) (by omega) 1 (.int .u64 (lo (Y : Int)))
    have b5N : Box2 V20 (w.heap.size + 1 + 1 + 1) (.int .i64 0) (.int .u64 0) 38 := by rw [hV]; exact ((b5).other (b := w9.heap.size) (by omega) 0 (.int .u64 (hi (Y : Int)))).other (b := w9.heap.size) (by omega) 1 (.int .u64 (lo (Y : Int)))
    have b7N : Box2 V20 w2.heap.size (.int .u64 (hi (X : Int))) (.int .u64 (lo (X : Int))) 213 := by rw [hV]; exact ((b7).other (b := w9.heap.size) (by omega) 0 (.int .u64 (hi (Y : Int)))).other (b := w9.heap.size) (by omega) 1 (.int .u64 (lo (Y : Int)))
    have b9N : Box2 V20 w9.heap.size (.int .u64 (hi (Y : Int))) (.int .u64 (lo (Y : Int))) 213 := by rw [hV]; exact (b9).set (.int .u64 (hi (Y : Int))) (.int .u64 (lo (Y : Int)))
    have b11N : Box2 V20 w13.heap.size (.int .u64 (hi (G : Int))) (.int .u64 (lo (G : Int))) 213 := by rw [hV]; exact ((b11).other (b := w9.heap.size) (by omega) 0 (.int .u64 (hi (Y : Int)))).other (b := w9.heap.size) (by omega) 1 (.int .u64 (lo (Y : Int)))
    replace xw : Ext w V20 := by rw [hV]; exact Ext.set (Ext.set (xw) (k := w9.heap.size) (o := 0) (u := .int .u64 (hi (Y : Int))) (by omega)) (k := w9.heap.size) (o := 1) (u := .int .u64 (lo (Y : Int))) (by omega)
    replace b2 := b2N; clear b2N
    replace b3 := b3N; clear b3N
    replace b4 := b4N; clear b4N
    replace b5 := b5N; clear b5N
    replace b7 := b7N; clear b7N
    replace b9 := b9N; clear b9N
    replace b11 := b11N; clear b11N
    clear hV
    have b7_c0 := b7.c0
    have b7_c1 := b7.c1
    go_wp2_with fail
    refine (HSgd.out _ _ _ HUX.out).mono ?_
    rw [HP.out]
    rintro e w21 ⟨rfl, x21⟩
    rw [thi_yes hP, tlo_yes hP, ter_yes hP]
    clear b7_c0 b7_c1
    replace b2 := b2.ext x21
    replace b3 := b3.ext x21
    replace b4 := b4.ext x21
    replace b5 := b5.ext x21
    replace b7 := b7.ext x21
    replace b9 := b9.ext x21
    replace b11 := b11.ext x21
    replace xw := Ext.trans xw x21
    go_upto_region 9 with fail
    have o23 := b11.kind.lt
    have o24 := xw.size
    refine wp_name ?_
    intro V22 hV
    have b2N : Box2 V22 w.heap.size (.int .i64 (hi n)) (.int .u64 (lo n)) 38 := by rw [hV]; exact (b2).alloc _
    have b3N : Box2 V22 (w.heap.size + 1) (.int .i64 (hi d)) (.int .u64 (lo d)) 38 := by rw [hV]; exact (b3).alloc _
    have b4N : Box2 V22 (w.heap.size + 1 + 1) (.int .i64 0) (.int .u64 0) 38 := by rw [hV]; exact (b4).alloc _
    have b5N : Box2 V22 (w.heap.size + 1 + 1 + 1) (.int .i64 0) (.int .u64 0) 38 := by rw [hV]; exact (b5).alloc _
    have b7N : Box2 V22 w2.heap.size (.int .u64 (hi (X : Int))) (.int .u64 (lo (X : Int))) 213 := by rw [hV]; exact (b7).alloc _
    have b9N : Box2 V22 w9.heap.size (.int .u64 (hi (Y : Int))) (.int .u64 (lo (Y : Int))) 213 := by rw [hV]; exact (b9).alloc _
    have b11N : Box2 V22 w13.heap.size (.int .u64 (hi (G : Int))) (.int .u64 (lo (G : Int))) 213 := by rw [hV]; exact (b11).alloc _
    replace xw : Ext w V22 := by rw [hV]; exact Ext.alloc (xw)
    replace b2 := b2N; clear b2N
    replace b3 := b3N; clear b3N
    replace b4 := b4N; clear b4N
    replace b5 := b5N; clear b5N
    replace b7 := b7N; clear b7N
    replace b9 := b9N; clear b9N
    replace b11 := b11N; clear b11N
    have b12 : Box2 V22 w21.heap.size (.int .i64 (hi (frP n d))) (.int .u64 (lo (frP n d))) 38 := by rw [hV]; exact Box2.new rfl
    clear hV
    have b9_c0 := b9.c0
    have b9_c1 := b9.c1
    go_wp2_with fail
    refine (HSgd.out _ _ _ HUY.out).mono ?_
    rw [HQ.out]
    rintro e w25 ⟨rfl, x25⟩
    rw [thi_no hQ, tlo_no hQ, ter_no hQ]
    clear b9_c0 b9_c1
    replace b2 := b2.ext x25
    replace b3 := b3.ext x25
    replace b4 := b4.ext x25
    replace b5 := b5.ext x25
    replace b7 := b7.ext x25
    replace b9 := b9.ext x25
    replace b11 := b11.ext x25
    replace b12 := b12.ext x25
    replace xw := Ext.trans xw x25
    go_upto_region 10 with fail
    have o27 := b12.kind.lt
    have o28 := xw.size
    refine wp_name ?_
    intro V26 hV
    have b2N : Box2 V26 w.heap.size (.int .i64 (hi n)) (.int .u64 (lo n)) 38 := by rw [hV]; exact (b2).alloc _
    have b3N : Box2 V26 (w.heap.size + 1) (.int .i64 (hi d)) (.int .u64 (lo d)) 38 := by rw [hV]; exact (b3).alloc _
    have b4N : Box2 V26 (w.heap.size + 1 + 1) (.int .i64 0) (.int .u64 0) 38 := by rw [hV]; exact (b4).alloc _
    have b5N : Box2 V26 (w.heap.size + 1 + 1 + 1) (.int .i64 0) (.int .u64 0) 38 := by rw [hV]; exact (b5).alloc _
    have b7N : Box2 V26 w2.heap.size (.int .u64 (hi (X : Int))) (.int .u64 (lo (X : Int))) 213 := by rw [hV]; exact (b7).alloc _
    have b9N : Box2 V26 w9.heap.size (.int .u64 (hi (Y : Int))) (.int .u64 (lo (Y : Int))) 213 := by rw [hV]; exact (b9).alloc _
    have b11N : Box2 V26 w13.heap.size (.int .u64 (hi (G : Int))) (.int .u64 (lo (G : Int))) 213 := by rw [hV]; exact (b11).alloc _
    have b12N : Box2 V26 w21.heap.size (.int .i64 (hi (frP n d))) (.int .u64 (lo (frP n d))) 38 := by rw [hV]; exact (b12).alloc _
    replace xw : Ext w V26 := by rw [hV]; exact Ext.alloc (xw)
    replace b2 := b2N; clear b2N
    replace b3 := b3N; clear b3N
    replace b4 := b4N; clear b4N
    replace b5 := b5N; clear b5N
    replace b7 := b7N; clear b7N
    replace b9 := b9N; clear b9N
    replace b11 := b11N; clear b11N
    replace b12 := b12N; clear b12N
    have b14 : Box2 V26 w25.heap.size (.int .i64 0) (.int .u64 0) 38 := by rw [hV]; exact Box2.new rfl
    clear hV
    go_upto_region 11 with fail
    have b4_c0 := b4.c0
    have b4_c1 := b4.c1
    have b4_f0 := b4.f0
    have b4_f1 := b4.f1
    have b5_c0 := b5.c0
    have b5_c1 := b5.c1
    have b5_f0 := b5.f0
    have b5_f1 := b5.f1
    have xr := Ext.set (Ext.set (Ext.set (Ext.set (xw) (k := w.heap.size + 1 + 1) (o := 0) (u := .int .i64 0) (by omega)) (k := w.heap.size + 1 + 1) (o := 1) (u := .int .u64 0) (by omega)) (k := w.heap.size + 1 + 1 + 1) (o := 0) (u := .int .i64 0) (by omega)) (k := w.heap.size + 1 + 1 + 1) (o := 1) (u := .int .u64 0) (by omega)
    go_wp2_with fail
    refine bodyPost_ret (v := .tuple #[.agg #[.int .i64 0, .int .u64 0], .agg #[.int .i64 0, .int .u64 0], .int .i64 2]) (by simp [results, Try.results172, go_sem, b4_c0, b4_c1, b5_c0, b5_c1]) rfl (retFr_no H0.out (fun h => hQ h.2.2) xr)
  · have g1 : (hi d == 0) = false := by simpa using hz1
    clear hz hz1
    go_enter Try.func172, Try.ntmps172
    go_upto_region 1 with fail
    have xw := Ext.refl w
    refine wp_name ?_
    intro V29 hV
    replace xw : Ext w V29 := by rw [hV]; exact Ext.alloc (Ext.alloc (Ext.alloc (Ext.alloc (xw))))
    have b2 : Box2 V29 w.heap.size (.int .i64 (hi n)) (.int .u64 (lo n)) 38 := by rw [hV]; exact (((Box2.new rfl).alloc _).alloc _).alloc _
    have b3 : Box2 V29 (w.heap.size + 1) (.int .i64 (hi d)) (.int .u64 (lo d)) 38 := by rw [hV]; exact ((Box2.new (by simp)).alloc _).alloc _
    have b4 : Box2 V29 (w.heap.size + 1 + 1) (.int .i64 0) (.int .u64 0) 38 := by rw [hV]; exact (Box2.new (by simp)).alloc _
    have b5 : Box2 V29 (w.heap.size + 1 + 1 + 1) (.int .i64 0) (.int .u64 0) 38 := by rw [hV]; exact Box2.new (by simp)
    clear hV
    have b3_c0 := b3.c0
    have b3_c1 := b3.c1
    go_upto_region 3 with fail
    clear b3_c0 b3_c1
    have b2_c0 := b2.c0
    have b2_c1 := b2.c1
    go_wp2_with fail
    refine (HPar.out n _ hn).mono ?_
    rw [HA.out]
    rintro e w30 ⟨rfl, x30⟩
    clear b2_c0 b2_c1
    replace b2 := b2.ext x30
    replace b3 := b3.ext x30
    replace b4 := b4.ext x30
    replace b5 := b5.ext x30
    replace xw := Ext.trans xw x30
    go_upto_region 4 with fail
    have o32 := b2.kind.lt
    have o33 := b3.kind.lt
    have o34 := b4.kind.lt
    have o35 := b5.kind.lt
    have o36 := xw.size
    refine wp_name ?_
    intro V31 hV
    have b2N : Box2 V31 w.heap.size (.int .i64 (hi n)) (.int .u64 (lo n)) 38 := by rw [hV]; exact (b2).alloc _
    have b3N : Box2 V31 (w.heap.size + 1) (.int .i64 (hi d)) (.int .u64 (lo d)) 38 := by rw [hV]; exact (b3).alloc _
    have b4N : Box2 V31 (w.heap.size + 1 + 1) (.int .i64 0) (.int .u64 0) 38 := by rw [hV]; exact (b4).alloc _
    have b5N : Box2 V31 (w.heap.size + 1 + 1 + 1) (.int .i64 0) (.int .u64 0) 38 := by rw [hV]; exact (b5).alloc _
    replace xw : Ext w V31 := by rw [hV]; exact Ext.alloc (xw)
    replace b2 := b2N; clear b2N
    replace b3 := b3N; clear b3N
    replace b4 := b4N; clear b4N
    replace b5 := b5N; clear b5N
    have b7 : Box2 V31 w30.heap.size (.int .u64 (hi (A : Int))) (.int .u64 (lo (A : Int))) 213 := by rw [hV]; exact Box2.new rfl
    clear hV
    have b3_c0 := b3.c0
    have b3_c1 := b3.c1
    go_wp2_with fail
    refine (HPar.out d _ hd).mono ?_
    rw [HD.out]
    rintro e w37 ⟨rfl, x37⟩
    clear b3_c0 b3_c1
    replace b2 := b2.ext x37
    replace b3 := b3.ext x37
    replace b4 := b4.ext x37
    replace b5 := b5.ext x37
    replace b7 := b7.ext x37
    replace xw := Ext.trans xw x37
    go_upto_region 5 with fail
    have o39 := b7.kind.lt
    have o40 := xw.size
    refine wp_name ?_
    intro V38 hV
    have b2N : Box2 V38 w.heap.size (.int .i64 (hi n)) (.int .u64 (lo n)) 38 := by rw [hV]; exact (b2).alloc _
    have b3N : Box2 V38 (w.heap.size + 1) (.int .i64 (hi d)) (.int .u64 (lo d)) 38 := by rw [hV]; exact (b3).alloc _
    have b4N : Box2 V38 (w.heap.size + 1 + 1) (.int .i64 0) (.int .u64 0) 38 := by rw [hV]; exact (b4).alloc _
    have b5N : Box2 V38 (w.heap.size + 1 + 1 + 1) (.int .i64 0) (.int .u64 0) 38 := by rw [hV]; exact (b5).alloc _
    have b7N : Box2 V38 w30.heap.size (.int .u64 (hi (A : Int))) (.int .u64 (lo (A : Int))) 213 := by rw [hV]; exact (b7).alloc _
    replace xw : Ext w V38 := by rw [hV]; exact Ext.alloc (xw)
    replace b2 := b2N; clear b2N
    replace b3 := b3N; clear b3N
    replace b4 := b4N; clear b4N
    replace b5 := b5N; clear b5N
    replace b7 := b7N; clear b7N
    have b9 : Box2 V38 w37.heap.size (.int .u64 (hi (D : Int))) (.int .u64 (lo (D : Int))) 213 := by rw [hV]; exact Box2.new rfl
    clear hV
    have b7_c0 := b7.c0
    have b7_c1 := b7.c1
    have b9_c0 := b9.c0
    have b9_c1 := b9.c1
    go_wp2_with fail
    refine (HGc.out 170141183460469231731687303715884105728 A D _ HBd.out.1 HBd.out.2 HOT.out).mono ?_
    rw [HG.out]
    rintro e w41 ⟨rfl, x41⟩
    clear b7_c0 b7_c1 b9_c0 b9_c1
    replace b2 := b2.ext x41
    replace b3 := b3.ext x41
    replace b4 := b4.ext x41
    replace b5 := b5.ext x41
    replace b7 := b7.ext x41
    replace b9 := b9.ext x41
    replace xw := Ext.trans xw x41
    go_upto_region 6 with fail
    have o43 := b9.kind.lt
    have o44 := xw.size
    refine wp_name ?_
    intro V42 hV
    have b2N : Box2 V42 w.heap.size (.int .i64 (hi n)) (.int .u64 (lo n)) 38 := by rw [hV]; exact (b2).alloc _
    have b3N : Box2 V42 (w.heap.size + 1) (.int .i64 (hi d)) (.int .u64 (lo d)) 38 := by rw [hV]; exact (b3).alloc _
    have b4N : Box2 V42 (w.heap.size + 1 + 1) (.int .i64 0) (.int .u64 0) 38 := by rw [hV]; exact (b4).alloc _
    have b5N : Box2 V42 (w.heap.size + 1 + 1 + 1) (.int .i64 0) (.int .u64 0) 38 := by rw [hV]; exact (b5).alloc _
    have b7N : Box2 V42 w30.heap.size (.int .u64 (hi (A : Int))) (.int .u64 (lo (A : Int))) 213 := by rw [hV]; exact (b7).alloc _
    have b9N : Box2 V42 w37.heap.size (.int .u64 (hi (D : Int))) (.int .u64 (lo (D : Int))) 213 := by rw [hV]; exact (b9).alloc _
    replace xw : Ext w V42 := by rw [hV]; exact Ext.alloc (xw)
    replace b2 := b2N; clear b2N
    replace b3 := b3N; clear b3N
    replace b4 := b4N; clear b4N
    replace b5 := b5N; clear b5N
    replace b7 := b7N; clear b7N
    replace b9 := b9N; clear b9N
    have b11 : Box2 V42 w41.heap.size (.int .u64 (hi (G : Int))) (.int .u64 (lo (G : Int))) 213 := by rw [hV]; exact Box2.new rfl
    clear hV
    have b7_c0 := b7.c0
    have b7_c1 := b7.c1
    have b11_c0 := b11.c0
    have b11_c1 := b11.c1
    go_wp2_with fail
    refine (HO1.out _).mono ?_
    rw [HX.out, HR1.out]
    rintro e w45 ⟨rfl, x45⟩
    clear b7_c0 b7_c1 b11_c0 b11_c1
    replace b2 := b2.ext x45
    replace b3 := b3.ext x45
    replace b4 := b4.ext x45
    replace b5 := b5.ext x45
    replace b7 := b7.ext x45
    replace b9 := b9.ext x45
    replace b11 := b11.ext x45
    replace xw := Ext.trans xw x45
    have b7_c0 := b7.c0
    have b7_c1 := b7.c1
    have b7_f0 := b7.f0
    have b7_f1 := b7.f1
    go_upto_region 7 with fail
    clear b7_c0 b7_c1 b7_f0 b7_f1
    refine wp_name ?_
    intro V46 hV
    have b2N : Box2 V46 w.heap.size (.int .i64 (hi n)) (.int .u64 (lo n)) 38 := by rw [hV]; exact ((b2).other (b := w30.heap.size) (by omega) 0 (.int .u64 (hi (X : Int)))).other (b := w30.heap.size) (by omega) 1 (.int .u64 (lo (X : Int)))
    have b3N : Box2 V46 (w.heap.size + 1) (.int .i64 (hi d)) (.int .u64 (lo d)) 38 := by rw [hV]; exact ((b3).other (b := w30.heap.size) (by omega) 0 (.int .u64 (hi (X : Int)))).other (b := w30.heap.size) (by omega) 1 (.int .u64 (lo (X : Int)))
    have b4N : Box2 V46 (w.heap.size + 1 + 1) (.int .i64 0) (.int .u64 0) 38 := by rw [hV]; exact ((b4).other (b := w30.heap.size) (by omega) 0 (.int .u64 (hi (X : Int)))).other (b := w30.heap.size) (by omega) 1 (.int .u64 (lo (X : Int)))
    have b5N : Box2 V46 (w.heap.size + 1 + 1 + 1) (.int .i64 0) (.int .u64 0) 38 := by rw [hV]; exact ((b5).other (b := w30.heap.size) (by omega) 0 (.int .u64 (hi (X : Int)))).other (b := w30.heap.size) (by omega) 1 (.int .u64 (lo (X : Int)))
    have b7N : Box2 V46 w30.heap.size (.int .u64 (hi (X : Int))) (.int .u64 (lo (X : Int))) 213 := by rw [hV]; exact (b7).set (.int .u64 (hi (X : Int))) (.int .u64 (lo (X : Int)))
    have b9N : Box2 V46 w37.heap.size (.int .u64 (hi (D : Int))) (.int .u64 (lo (D : Int))) 213 := by rw [hV]; exact ((b9).other (b := w30.heap.size) (by omega) 0 (.int .u64 (hi (X : Int)))).other (b := w30.heap.size) (by omega) 1 (.int .u64 (lo (X : Int)))
    have b11N : Box2 V46 w41.heap.size (.int .u64 (hi (G : Int))) (.int .u64 (lo (G : Int))) 213 := by rw [hV]; exact ((b11).other (b := w30.heap.size) (by omega) 0 (.int .u64 (hi (X : Int)))).other (b := w30.heap.size) (by omega) 1 (.int .u64 (lo (X : Int)))
    replace xw : Ext w V46 := by rw [hV]; exact Ext.set (Ext.set (xw) (k := w30.heap.size) (o := 0) (u := .int .u64 (hi (X : Int))) (by omega)) (k := w30.heap.size) (o := 1) (u := .int .u64 (lo (X : Int))) (by omega)
    replace b2 := b2N; clear b2N
    replace b3 := b3N; clear b3N
    replace b4 := b4N; clear b4N
    replace b5 := b5N; clear b5N
    replace b7 := b7N; clear b7N
    replace b9 := b9N; clear b9N
    replace b11 := b11N; clear b11N
    clear hV
    have b9_c0 := b9.c0
    have b9_c1 := b9.c1
    have b11_c0 := b11.c0
    have b11_c1 := b11.c1
    go_wp2_with fail
    refine (HO2.out _).mono ?_
    rw [HY.out, HR2.out]
    rintro e w47 ⟨rfl, x47⟩
    clear b9_c0 b9_c1 b11_c0 b11_c1
    replace b2 := b2.ext x47
    replace b3 := b3.ext x47
    replace b4 := b4.ext x47
    replace b5 := b5.ext x47
    replace b7 := b7.ext x47
    replace b9 := b9.ext x47
    replace b11 := b11.ext x47
    replace xw := Ext.trans xw x47
    have b9_c0 := b9.c0
    have b9_c1 := b9.c1
    have b9_f0 := b9.f0
    have b9_f1 := b9.f1
    go_upto_region 8 with fail
    clear b9_c0 b9_c1 b9_f0 b9_f1
    refine wp_name ?_
    intro V48 hV
    have b2N : Box2 V48 w.heap.size (.int .i64 (hi n)) (.int .u64 (lo n)) 38 := by rw [hV]; exact ((b2).other (b := w37.heap.size) (by omega) 0 (.int .u64 (hi (Y : Int)))).other (b := w37.heap.size) (by omega) 1 (.int .u64 (lo (Y : Int)))
    have b3N : Box2 V48 (w.heap.size + 1) (.int .i64 (hi d)) (.int .u64 (lo d)) 38 := by rw [hV]; exact ((b3).other (b := w37.heap.size) (by omega) 0 (.int .u64 (hi (Y : Int)))).other (b := w37.heap.size) (by omega) 1 (.int .u64 (lo (Y : Int)))
    have b4N : Box2 V48 (w.heap.size + 1 + 1) (.int .i64 0) (.int .u64 0) 38 := by rw [hV]; exact ((b4).other (b := w37.heap.size) (by omega) 0 (.int .u64 (hi (Y : Int)))).other (b := w37.heap.size) (by omega) 1 (.int .u64 (lo (Y : Int)))
    have b5N : Box2 V48 (w.heap.size + 1 + 1 + 1) (.int .i64 0) (.int .u64 0) 38 := by rw [hV]; exact ((b5).other (b := w37.heap.size) (by omega) 0 (.int .u64 (hi (Y : Int)))).other (b := w37.heap.size) (by omega) 1 (.int .u64 (lo (Y : Int)))
    have b7N : Box2 V48 w30.heap.size (.int .u64 (hi (X : Int))) (.int .u64 (lo (X : Int))) 213 := by rw [hV]; exact ((b7).other (b := w37.heap.size) (by omega) 0 (.int .u64 (hi (Y : Int)))).other (b := w37.heap.size) (by omega) 1 (.int .u64 (lo (Y : Int)))
    have b9N : Box2 V48 w37.heap.size (.int .u64 (hi (Y : Int))) (.int .u64 (lo (Y : Int))) 213 := by rw [hV]; exact (b9).set (.int .u64 (hi (Y : Int))) (.int .u64 (lo (Y : Int)))
    have b11N : Box2 V48 w41.heap.size (.int .u64 (hi (G : Int))) (.int .u64 (lo (G : Int))) 213 := by rw [hV]; exact ((b11).other (b := w37.heap.size) (by omega) 0 (.int .u64 (hi (Y : Int)))).other (b := w37.heap.size) (by omega) 1 (.int .u64 (lo (Y : Int)))
    replace xw : Ext w V48 := by rw [hV]; exact Ext.set (Ext.set (xw) (k := w37.heap.size) (o := 0) (u := .int .u64 (hi (Y : Int))) (by omega)) (k := w37.heap.size) (o := 1) (u := .int .u64 (lo (Y : Int))) (by omega)
    replace b2 := b2N; clear b2N
    replace b3 := b3N; clear b3N
    replace b4 := b4N; clear b4N
    replace b5 := b5N; clear b5N
    replace b7 := b7N; clear b7N
    replace b9 := b9N; clear b9N
    replace b11 := b11N; clear b11N
    clear hV
    have b7_c0 := b7.c0
    have b7_c1 := b7.c1
    go_wp2_with fail
    refine (HSgd.out _ _ _ HUX.out).mono ?_
    rw [HP.out]
    rintro e w49 ⟨rfl, x49⟩
    rw [thi_yes hP, tlo_yes hP, ter_yes hP]
    clear b7_c0 b7_c1
    replace b2 := b2.ext x49
    replace b3 := b3.ext x49
    replace b4 := b4.ext x49
    replace b5 := b5.ext x49
    replace b7 := b7.ext x49
    replace b9 := b9.ext x49
    replace b11 := b11.ext x49
    replace xw := Ext.trans xw x49
    go_upto_region 9 with fail
    have o51 := b11.kind.lt
    have o52 := xw.size
    refine wp_name ?_
    intro V50 hV
    have b2N : Box2 V50 w.heap.size (.int .i64 (hi n)) (.int .u64 (lo n)) 38 := by rw [hV]; exact (b2).alloc _
    have b3N : Box2 V50 (w.heap.size + 1) (.int .i64 (hi d)) (.int .u64 (lo d)) 38 := by rw [hV]; exact (b3).alloc _
    have b4N : Box2 V50 (w.heap.size + 1 + 1) (.int .i64 0) (.int .u64 0) 38 := by rw [hV]; exact (b4).alloc _
    have b5N : Box2 V50 (w.heap.size + 1 + 1 + 1) (.int .i64 0) (.int .u64 0) 38 := by rw [hV]; exact (b5).alloc _
    have b7N : Box2 V50 w30.heap.size (.int .u64 (hi (X : Int))) (.int .u64 (lo (X : Int))) 213 := by rw [hV]; exact (b7).alloc _
    have b9N : Box2 V50 w37.heap.size (.int .u64 (hi (Y : Int))) (.int .u64 (lo (Y : Int))) 213 := by rw [hV]; exact (b9).alloc _
    have b11N : Box2 V50 w41.heap.size (.int .u64 (hi (G : Int))) (.int .u64 (lo (G : Int))) 213 := by rw [hV]; exact (b11).alloc _
    replace xw : Ext w V50 := by rw [hV]; exact Ext.alloc (xw)
    replace b2 := b2N; clear b2N
    replace b3 := b3N; clear b3N
    replace b4 := b4N; clear b4N
    replace b5 := b5N; clear b5N
    replace b7 := b7N; clear b7N
    replace b9 := b9N; clear b9N
    replace b11 := b11N; clear b11N
    have b12 : Box2 V50 w49.heap.size (.int .i64 (hi (frP n d))) (.int .u64 (lo (frP n d))) 38 := by rw [hV]; exact Box2.new rfl
    clear hV
    have b9_c0 := b9.c0
    have b9_c1 := b9.c1
    go_wp2_with fail
    refine (HSgd.out _ _ _ HUY.out).mono ?_
    rw [HQ.out]
    rintro e w53 ⟨rfl, x53⟩
    rw [thi_no hQ, tlo_no hQ, ter_no hQ]
    clear b9_c0 b9_c1
    replace b2 := b2.ext x53
    replace b3 := b3.ext x53
    replace b4 := b4.ext x53
    replace b5 := b5.ext x53
    replace b7 := b7.ext x53
    replace b9 := b9.ext x53
    replace b11 := b11.ext x53
    replace b12 := b12.ext x53
    replace xw := Ext.trans xw x53
    go_upto_region 10 with fail
    have o55 := b12.kind.lt
    have o56 := xw.size
    refine wp_name ?_
    intro V54 hV
    have b2N : Box2 V54 w.heap.size (.int .i64 (hi n)) (.int .u64 (lo n)) 38 := by rw [hV]; exact (b2).alloc _
    have b3N : Box2 V54 (w.heap.size + 1) (.int .i64 (hi d)) (.int .u64 (lo d)) 38 := by rw [hV]; exact (b3).alloc _
    have b4N : Box2 V54 (w.heap.size + 1 + 1) (.int .i64 0) (.int .u64 0) 38 := by rw [hV]; exact (b4).alloc _
    have b5N : Box2 V54 (w.heap.size + 1 + 1 + 1) (.int .i64 0) (.int .u64 0) 38 := by rw [hV]; exact (b5).alloc _
    have b7N : Box2 V54 w30.heap.size (.int .u64 (hi (X : Int))) (.int .u64 (lo (X : Int))) 213 := by rw [hV]; exact (b7).alloc _
    have b9N : Box2 V54 w37.heap.size (.int .u64 (hi (Y : Int))) (.int .u64 (lo (Y : Int))) 213 := by rw [hV]; exact (b9).alloc _
    have b11N : Box2 V54 w41.heap.size (.int .u64 (hi (G : Int))) (.int .u64 (lo (G : Int))) 213 := by rw [hV]; exact (b11).alloc _
    have b12N : Box2 V54 w49.heap.size (.int .i64 (hi (frP n d))) (.int .u64 (lo (frP n d))) 38 := by rw [hV]; exact (b12).alloc _
    replace xw : Ext w V54 := by rw [hV]; exact Ext.alloc (xw)
    replace b2 := b2N; clear b2N
    replace b3 := b3N; clear b3N
    replace b4 := b4N; clear b4N
    replace b5 := b5N; clear b5N
    replace b7 := b7N; clear b7N
    replace b9 := b9N; clear b9N
    replace b11 := b11N; clear b11N
    replace b12 := b12N; clear b12N
    have b14 : Box2 V54 w53.heap.size (.int .i64 0) (.int .u64 0) 38 := by rw [hV]; exact Box2.new rfl
    clear hV
    go_upto_region 11 with fail
    have b4_c0 := b4.c0
    have b4_c1 := b4.c1
    have b4_f0 := b4.f0
    have b4_f1 := b4.f1
    have b5_c0 := b5.c0
    have b5_c1 := b5.c1
    have b5_f0 := b5.f0
    have b5_f1 := b5.f1
    have xr := Ext.set (Ext.set (Ext.set (Ext.set (xw) (k := w.heap.size + 1 + 1) (o := 0) (u := .int .i64 0) (by omega)) (k := w.heap.size + 1 + 1) (o := 1) (u := .int .u64 0) (by omega)) (k := w.heap.size + 1 + 1 + 1) (o := 0) (u := .int .i64 0) (by omega)) (k := w.heap.size + 1 + 1 + 1) (o := 1) (u := .int .u64 0) (by omega)
    go_wp2_with fail
    refine bodyPost_ret (v := .tuple #[.agg #[.int .i64 0, .int .u64 0], .agg #[.int .i64 0, .int .u64 0], .int .i64 2]) (by simp [results, Try.results172, go_sem, b4_c0, b4_c1, b5_c0, b5_c1]) rfl (retFr_no H0.out (fun h => hQ h.2.2) xr)
theorem dfrac_any (n d : Int) (w : World) (hn : W128 n) (hd : W128 d) :
    Calls Try.prog 172 #[.agg #[.int .i64 (hi n), .int .u64 (lo n)], .agg #[.int .i64 (hi d), .int .u64 (lo d)]] w (RetFr w n d) := by
  by_cases h0 : d = 0
  · subst h0; exact dfrac0 n w
  by_cases hP : W128 (frP n d)
  · by_cases hQ : W128 (frQ n d)
    · exact dfrac_yes n d w hn hd h0 hP hQ
    · exact dfrac_no2 n d w hn hd h0 hP hQ
  · exact dfrac_no1 n d w hn hd h0 hP
end Go.Proofs.Ytcndfpfjckkinaa
