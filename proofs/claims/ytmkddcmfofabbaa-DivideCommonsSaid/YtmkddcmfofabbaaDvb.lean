/-
  divide.Trunc.
-/
import Derived.Test.YtmkddcmfofabbaaDva
namespace Go.Proofs.Ytmkddcmfofabbaa
open Go Go.RowKit

theorem tdiv_mag (a b : Int) : wsg (!(decide (a < 0) == decide (b < 0))) (mag a / mag b) = a.tdiv b := by
  by_cases ha : a < 0 <;> by_cases hb : b < 0
  · rw [decide_eq_true ha, decide_eq_true hb, mag_neg ha, mag_neg hb]
    show -a / -b = _
    rw [← Int.tdiv_eq_ediv_of_nonneg (by omega), Int.neg_tdiv, Int.tdiv_neg]; simp
  · rw [decide_eq_true ha, decide_eq_false hb, mag_neg ha, mag_pos (by omega)]
    show -(-a / b) = _
    rw [← Int.tdiv_eq_ediv_of_nonneg (by omega), Int.neg_tdiv]; simp
  · rw [decide_eq_false ha, decide_eq_true hb, mag_neg hb, mag_pos (by omega)]
    show -(a / -b) = _
    rw [← Int.tdiv_eq_ediv_of_nonneg (by omega), Int.tdiv_neg]; simp
  · rw [decide_eq_false ha, decide_eq_false hb, mag_pos (by omega), mag_pos (by omega)]
    show a / b = _
    rw [Int.tdiv_eq_ediv_of_nonneg (by omega)]
theorem tmod_mag (a b : Int) : wsg (decide (a < 0)) (mag a % mag b) = a.tmod b := by
  have key : ∀ x : Int, 0 ≤ x → x % mag b = x.tmod b := by
    intro x hx
    by_cases hb : b < 0
    · rw [mag_neg hb, ← Int.tmod_eq_emod_of_nonneg hx, Int.tmod_neg]
    · rw [mag_pos (by omega), Int.tmod_eq_emod_of_nonneg hx]
  by_cases ha : a < 0
  · rw [decide_eq_true ha, mag_neg ha, wsg_t, key _ (by omega), Int.neg_tmod]; simp
  · rw [decide_eq_false ha, mag_pos (by omega), wsg_f, key _ (by omega)]
def qh (q r : Int) : Int := if W128 q then hi r else 0
def ql (q r : Int) : Int := if W128 q then lo r else 0
/-- A call that returns a quotient, a rest and 0, or none and 2. -/
def RetQ (w : World) (q r : Int) (e : Ending) (w' : World) : Prop :=
  e = .returned (.tuple #[.agg #[.int .i64 (thi q), .int .u64 (tlo q)], .agg #[.int .i64 (qh q r), .int .u64 (ql q r)], .int .i64 (ter q)]) ∧ Ext w w'
theorem retQ_yes {w w' : World} {q r : Int} (h : W128 q) (x : Ext w w') : RetQ w q r (.returned (.tuple #[.agg #[.int .i64 (hi q), .int .u64 (lo q)], .agg #[.int .i64 (hi r), .int .u64 (lo r)], .int .i64 0])) w' := by
  refine ⟨?_, x⟩
  rw [thi_yes h, tlo_yes h, ter_yes h, show qh q r = hi r from if_pos h, show ql q r = lo r from if_pos h]
theorem retQ_no {w w' : World} {q r : Int} (h : ¬ W128 q) (x : Ext w w') : RetQ w q r (.returned (.tuple #[.agg #[.int .i64 0, .int .u64 0], .agg #[.int .i64 0, .int .u64 0], .int .i64 2])) w' := by
  refine ⟨?_, x⟩
  rw [thi_no h, tlo_no h, ter_no h, show qh q r = 0 from if_neg h, show ql q r = 0 from if_neg h]
/-- over is right at b and d. -/
def OverC (b d : Int) : Prop := ∀ w, Calls Try.prog 105 #[.agg #[.int .u64 (hi b), .int .u64 (lo b)], .agg #[.int .u64 (hi d), .int .u64 (lo d)]] w (RetB w (b / d) (b % d))
theorem mag_zero {b : Int} (h : b ≠ 0) : 0 < mag b := by unfold mag; split <;> omega
theorem div_U {a b : Int} (ha : W128 a) (hb : W128 b) (h : b ≠ 0) : U128 (mag a / mag b) ∧ U128 (mag a % mag b) := by
  have h0 := mag_zero h
  have h1 := mag_W ha
  have h2 := mag_W hb
  have := Int.ediv_le_self (mag b) h1.1
  have := Int.ediv_nonneg h1.1 h2.1
  have := Int.emod_nonneg (mag a) (show mag b ≠ 0 by omega)
  have := Int.emod_lt_of_pos (mag a) h0
  unfold U128
  omega
theorem tmod_W {a b : Int} (hb : W128 b) (h : b ≠ 0) : W128 (a.tmod b) := by
  rw [← tmod_mag]
  have h0 := mag_zero h
  have h2 := mag_W hb
  have := Int.emod_nonneg (mag a) (show mag b ≠ 0 by omega)
  have := Int.emod_lt_of_pos (mag a) h0
  unfold W128
  cases decide (a < 0)
  · rw [wsg_f]; omega
  · rw [wsg_t]; omega

theorem Box2.named2 {V w : World} {k : Nat} {u v : Value} {t : TypeId} {o o' : Obj} (h : Box2 w k u v t) (e : V = (w.alloc o).alloc o') : Box2 V k u v t := by rw [e]; exact (h.alloc o).alloc o'
set_option maxRecDepth 100000 in
set_option maxHeartbeats 3200000 in
theorem dtrunc (a b : Int) (w : World) (ha : W128 a) (hb : W128 b) (h0 : b ≠ 0) (ho : OverC (mag a) (mag b)) :
    Calls Try.prog 59 #[.agg #[.int .i64 (hi a), .int .u64 (lo a)], .agg #[.int .i64 (hi b), .int .u64 (lo b)]] w (RetQ w (a.tdiv b) (a.tmod b)) := by
  have H1 := Lib.hid dparts
  have H2 := Lib.hid ho
  have H3 := Lib.hid dsigned
  obtain ⟨u1, u2⟩ := div_U ha hb h0
  have E1 := Lib.hid (tdiv_mag a b)
  have E2 := Lib.hid (tmod_mag a b)
  have hrW := tmod_W (a := a) hb h0
  have hz : ¬ (hi b = 0 ∧ lo b = 0) := by rintro ⟨g1, g2⟩; have := hi_lo b; omega
  clear ho
  by_cases hz1 : hi b = 0
  · have g1 : (hi b == 0) = true := by simpa using hz1
    have g2 : (lo b == 0) = false := by simpa using fun h => hz ⟨hz1, h⟩
    clear hz hz1
    go_enter Try.func59, Try.ntmps59
    go_wp2_with fail
    obtain ⟨W, hW⟩ : ∃ W, W = (((w.alloc (.cells #[.int .i64 (hi a), .int .u64 (lo a)] 26)).alloc (.cells #[.int .i64 (hi b), .int .u64 (lo b)] 26)).alloc (.cells #[.int .i64 0, .int .u64 0] 26)).alloc (.cells #[.int .i64 0, .int .u64 0] 26) := ⟨_, rfl⟩
    rw [← hW]
    have hB : Box2 W (w.heap.size + 1) (.int .i64 (hi b)) (.int .u64 (lo b)) 26 := by rw [hW]; exact ((Box2.new (by simp)).alloc _).alloc _
    have hR : Box2 W (w.heap.size + 1 + 1) (.int .i64 0) (.int .u64 0) 26 := by rw [hW]; exact (Box2.new (by simp)).alloc _
    have hS : Box2 W (w.heap.size + 1 + 1 + 1) (.int .i64 0) (.int .u64 0) 26 := by rw [hW]; exact Box2.new (by simp)
    have xw : Ext w W := by rw [hW]; exact (Ext.refl w).alloc.alloc.alloc.alloc
    clear hW
    refine (H1.out _ _ ha).mono ?_
    rintro e w1 ⟨rfl, x1⟩
    (first | replace xw := Ext.trans xw x1 | replace xw := Ext.trans (Ext.alloc xw) x1 | replace xw := Ext.trans (Ext.drew xw) x1 | replace xw := Ext.trans (Ext.alloc (Ext.drew xw)) x1); (first | replace hB := hB.ext x1 | replace hB := (hB.alloc _).ext x1 | replace hB := hB.drew.ext x1 | replace hB := (hB.drew.alloc _).ext x1); (first | replace hR := hR.ext x1 | replace hR := (hR.alloc _).ext x1 | replace hR := hR.drew.ext x1 | replace hR := (hR.drew.alloc _).ext x1); (first | replace hS := hS.ext x1 | replace hS := (hS.alloc _).ext x1 | replace hS := hS.drew.ext x1 | replace hS := (hS.drew.alloc _).ext x1)
    have hX : Box2 (w1.alloc (.cells #[.int .u64 (hi (mag a)), .int .u64 (lo (mag a))] 123)) w1.heap.size (.int .u64 (hi (mag a))) (.int .u64 (lo (mag a))) 123 := Box2.new rfl
    replace hB := hB.alloc (.cells #[.int .u64 (hi (mag a)), .int .u64 (lo (mag a))] 123)
    replace hR := hR.alloc (.cells #[.int .u64 (hi (mag a)), .int .u64 (lo (mag a))] 123)
    replace hS := hS.alloc (.cells #[.int .u64 (hi (mag a)), .int .u64 (lo (mag a))] 123)
    have hB_0 := hB.c0; have hB_1 := hB.c1
    go_wp2_with fail
    clear hB_0 hB_1
    refine (H1.out _ _ hb).mono ?_
    rintro e w2 ⟨rfl, x2⟩
    clear hB
    (first | replace xw := Ext.trans xw x2 | replace xw := Ext.trans (Ext.alloc xw) x2 | replace xw := Ext.trans (Ext.drew xw) x2 | replace xw := Ext.trans (Ext.alloc (Ext.drew xw)) x2); (first | replace hX := hX.ext x2 | replace hX := (hX.alloc _).ext x2 | replace hX := hX.drew.ext x2 | replace hX := (hX.drew.alloc _).ext x2); (first | replace hR := hR.ext x2 | replace hR := (hR.alloc _).ext x2 | replace hR := hR.drew.ext x2 | replace hR := (hR.drew.alloc _).ext x2); (first | replace hS := hS.ext x2 | replace hS := (hS.alloc _).ext x2 | replace hS := hS.drew.ext x2 | replace hS := (hS.drew.alloc _).ext x2)
    have hY : Box2 (w2.alloc (.cells #[.int .u64 (hi (mag b)), .int .u64 (lo (mag b))] 123)) w2.heap.size (.int .u64 (hi (mag b))) (.int .u64 (lo (mag b))) 123 := Box2.new rfl
    replace hX := hX.alloc (.cells #[.int .u64 (hi (mag b)), .int .u64 (lo (mag b))] 123)
    replace hR := hR.alloc (.cells #[.int .u64 (hi (mag b)), .int .u64 (lo (mag b))] 123)
    replace hS := hS.alloc (.cells #[.int .u64 (hi (mag b)), .int .u64 (lo (mag b))] 123)
    have hX_0 := hX.c0; have hX_1 := hX.c1; have hY_0 := hY.c0; have hY_1 := hY.c1
    go_wp2_with fail
    clear hX_0 hX_1 hY_0 hY_1
    clear hX hY
    refine (H2.out _).mono ?_
    rintro e w3 ⟨rfl, x3⟩
    (first | replace xw := Ext.trans xw x3 | replace xw := Ext.trans (Ext.alloc xw) x3 | replace xw := Ext.trans (Ext.drew xw) x3 | replace xw := Ext.trans (Ext.alloc (Ext.drew xw)) x3); (first | replace hR := hR.ext x3 | replace hR := (hR.alloc _).ext x3 | replace hR := hR.drew.ext x3 | replace hR := (hR.drew.alloc _).ext x3); (first | replace hS := hS.ext x3 | replace hS := (hS.alloc _).ext x3 | replace hS := hS.drew.ext x3 | replace hS := (hS.drew.alloc _).ext x3)
    obtain ⟨V, hV⟩ : ∃ V, V = (w3.alloc (.cells #[.int .u64 (hi (mag a / mag b)), .int .u64 (lo (mag a / mag b))] 123)).alloc (.cells #[.int .u64 (hi (mag a % mag b)), .int .u64 (lo (mag a % mag b))] 123) := ⟨_, rfl⟩
    have hP : Box2 ((w3.alloc (.cells #[.int .u64 (hi (mag a / mag b)), .int .u64 (lo (mag a / mag b))] 123)).alloc (.cells #[.int .u64 (hi (mag a % mag b)), .int .u64 (lo (mag a % mag b))] 123)) w3.heap.size (.int .u64 (hi (mag a / mag b))) (.int .u64 (lo (mag a / mag b))) 123 := (Box2.new rfl).alloc _
    have hQ : Box2 ((w3.alloc (.cells #[.int .u64 (hi (mag a / mag b)), .int .u64 (lo (mag a / mag b))] 123)).alloc (.cells #[.int .u64 (hi (mag a % mag b)), .int .u64 (lo (mag a % mag b))] 123)) (w3.heap.size + 1) (.int .u64 (hi (mag a % mag b))) (.int .u64 (lo (mag a % mag b))) 123 := Box2.new (by simp)
    have hP_0 := hP.c0; have hP_1 := hP.c1
    go_wp2_with fail
    clear hP_0 hP_1
    clear hP
    replace hR := hR.named2 hV
    replace hS := hS.named2 hV
    rw [← hV] at hQ ⊢
    replace xw : Ext w V := by rw [hV]; exact Ext.alloc (Ext.alloc xw)
    clear hV x1 x2 x3
    refine (H3.out _ _ _ u1).mono ?_
    rw [E1.out]
    rintro e w4 ⟨rfl, x4⟩
    (first | replace xw := Ext.trans xw x4 | replace xw := Ext.trans (Ext.alloc xw) x4 | replace xw := Ext.trans (Ext.drew xw) x4 | replace xw := Ext.trans (Ext.alloc (Ext.drew xw)) x4); (first | replace hQ := hQ.ext x4 | replace hQ := (hQ.alloc _).ext x4 | replace hQ := hQ.drew.ext x4 | replace hQ := (hQ.drew.alloc _).ext x4); (first | replace hR := hR.ext x4 | replace hR := (hR.alloc _).ext x4 | replace hR := hR.drew.ext x4 | replace hR := (hR.drew.alloc _).ext x4); (first | replace hS := hS.ext x4 | replace hS := (hS.alloc _).ext x4 | replace hS := hS.drew.ext x4 | replace hS := (hS.drew.alloc _).ext x4)
    have y4 := hS.kind.lt
    by_cases hq : W128 (a.tdiv b)
    · rw [thi_yes hq, tlo_yes hq, ter_yes hq]
      have hN : Box2 (w4.alloc (.cells #[.int .i64 (hi (a.tdiv b)), .int .u64 (lo (a.tdiv b))] 26)) w4.heap.size (.int .i64 (hi (a.tdiv b))) (.int .u64 (lo (a.tdiv b))) 26 := Box2.new rfl
      replace hQ := hQ.alloc (.cells #[.int .i64 (hi (a.tdiv b)), .int .u64 (lo (a.tdiv b))] 26)
      replace hR := hR.alloc (.cells #[.int .i64 (hi (a.tdiv b)), .int .u64 (lo (a.tdiv b))] 26)
      replace hS := hS.alloc (.cells #[.int .i64 (hi (a.tdiv b)), .int .u64 (lo (a.tdiv b))] 26)
      have hQ_0 := hQ.c0; have hQ_1 := hQ.c1
      go_wp2_with fail
      clear hQ_0 hQ_1
      clear hQ
      refine (H3.out _ _ _ u2).mono ?_
      rw [E2.out]
      rintro e w5 ⟨rfl, x5⟩
      rw [thi_yes hrW, tlo_yes hrW, ter_yes hrW]
      (first | replace xw := Ext.trans xw x5 | replace xw := Ext.trans (Ext.alloc xw) x5 | replace xw := Ext.trans (Ext.drew xw) x5 | replace xw := Ext.trans (Ext.alloc (Ext.drew xw)) x5); (first | replace hN := hN.ext x5 | replace hN := (hN.alloc _).ext x5 | replace hN := hN.drew.ext x5 | replace hN := (hN.drew.alloc _).ext x5); (first | replace hR := hR.ext x5 | replace hR := (hR.alloc _).ext x5 | replace hR := hR.drew.ext x5 | replace hR := (hR.drew.alloc _).ext x5); (first | replace hS := hS.ext x5 | replace hS := (hS.alloc _).ext x5 | replace hS := hS.drew.ext x5 | replace hS := (hS.drew.alloc _).ext x5)
      have y5 := hS.kind.lt
      have hM : Box2 (w5.alloc (.cells #[.int .i64 (hi (a.tmod b)), .int .u64 (lo (a.tmod b))] 26)) w5.heap.size (.int .i64 (hi (a.tmod b))) (.int .u64 (lo (a.tmod b))) 26 := Box2.new rfl
      replace hN := hN.alloc (.cells #[.int .i64 (hi (a.tmod b)), .int .u64 (lo (a.tmod b))] 26)
      replace hR := hR.alloc (.cells #[.int .i64 (hi (a.tmod b)), .int .u64 (lo (a.tmod b))] 26)
      replace hS := hS.alloc (.cells #[.int .i64 (hi (a.tmod b)), .int .u64 (lo (a.tmod b))] 26)
      go_wp2_with fail
      obtain ⟨U, hU⟩ : ∃ U, U = w5.alloc (.cells #[.int .i64 (hi (a.tmod b)), .int .u64 (lo (a.tmod b))] 26) := ⟨_, rfl⟩
      replace xw : Ext w U := by rw [hU]; exact Ext.alloc xw
      rw [← hU] at hM hN hR hS ⊢
      clear hU x4 x5
      have hM_0 := hM.c0; have hM_1 := hM.c1; have hN_0 := hN.c0; have hN_1 := hN.c1; have hR_0 := hR.c0; have hR_1 := hR.c1; have hS_0 := hS.c0; have hS_1 := hS.c1
      have hR_2 := hR.f0; have hR_3 := hR.f1; have hS_2 := hS.f0; have hS_3 := hS.f1
      have n1 : ¬ w4.heap.size = w.heap.size + 1 + 1 := by omega
      have n2 : ¬ w4.heap.size = w.heap.size + 1 + 1 + 1 := by omega
      have n3 : ¬ w5.heap.size = w.heap.size + 1 + 1 := by omega
      have n4 : ¬ w5.heap.size = w.heap.size + 1 + 1 + 1 := by omega
      have n5 : ¬ w.heap.size + 1 + 1 = w4.heap.size := by omega
      have n6 : ¬ w.heap.size + 1 + 1 + 1 = w4.heap.size := by omega
      have n7 : ¬ w.heap.size + 1 + 1 = w5.heap.size := by omega
      have n8 : ¬ w.heap.size + 1 + 1 + 1 = w5.heap.size := by omega
      go_region
      go_wp2_with fail
      refine bodyPost_ret (v := .tuple #[.agg #[.int .i64 (hi (a.tdiv b)), .int .u64 (lo (a.tdiv b))], .agg #[.int .i64 (hi (a.tmod b)), .int .u64 (lo (a.tmod b))], .int .i64 0]) (by simp [results, Try.results59, go_sem, hR_0, hR_1, hS_0, hS_1]) rfl (retQ_yes hq ?_)
      exact Ext.drew (Ext.set (Ext.set (Ext.set (Ext.set xw (by omega)) (by omega)) (by omega)) (by omega))
    · rw [thi_no hq, tlo_no hq, ter_no hq]
      replace hR := hR.alloc (.cells #[.int .i64 0, .int .u64 0] 26)
      replace hS := hS.alloc (.cells #[.int .i64 0, .int .u64 0] 26)
      have hR_0 := hR.c0; have hR_1 := hR.c1; have hS_0 := hS.c0; have hS_1 := hS.c1
      have hR_2 := hR.f0; have hR_3 := hR.f1; have hS_2 := hS.f0; have hS_3 := hS.f1
      go_wp2_with fail
      refine bodyPost_ret (v := .tuple #[.agg #[.int .i64 0, .int .u64 0], .agg #[.int .i64 0, .int .u64 0], .int .i64 2]) (by simp [results, Try.results59, go_sem, hR_0, hR_1, hS_0, hS_1]) rfl (retQ_no hq ?_)
      exact Ext.set (Ext.set (Ext.set (Ext.set (Ext.alloc xw) (by omega)) (by omega)) (by omega)) (by omega)
  · have g1 : (hi b == 0) = false := by simpa using hz1
    clear hz hz1
    go_enter Try.func59, Try.ntmps59
    go_wp2_with fail
    obtain ⟨W, hW⟩ : ∃ W, W = (((w.alloc (.cells #[.int .i64 (hi a), .int .u64 (lo a)] 26)).alloc (.cells #[.int .i64 (hi b), .int .u64 (lo b)] 26)).alloc (.cells #[.int .i64 0, .int .u64 0] 26)).alloc (.cells #[.int .i64 0, .int .u64 0] 26) := ⟨_, rfl⟩
    rw [← hW]
    have hB : Box2 W (w.heap.size + 1) (.int .i64 (hi b)) (.int .u64 (lo b)) 26 := by rw [hW]; exact ((Box2.new (by simp)).alloc _).alloc _
    have hR : Box2 W (w.heap.size + 1 + 1) (.int .i64 0) (.int .u64 0) 26 := by rw [hW]; exact (Box2.new (by simp)).alloc _
    have hS : Box2 W (w.heap.size + 1 + 1 + 1) (.int .i64 0) (.int .u64 0) 26 := by rw [hW]; exact Box2.new (by simp)
    have xw : Ext w W := by rw [hW]; exact (Ext.refl w).alloc.alloc.alloc.alloc
    clear hW
    refine (H1.out _ _ ha).mono ?_
    rintro e w1 ⟨rfl, x1⟩
    (first | replace xw := Ext.trans xw x1 | replace xw := Ext.trans (Ext.alloc xw) x1 | replace xw := Ext.trans (Ext.drew xw) x1 | replace xw := Ext.trans (Ext.alloc (Ext.drew xw)) x1); (first | replace hB := hB.ext x1 | replace hB := (hB.alloc _).ext x1 | replace hB := hB.drew.ext x1 | replace hB := (hB.drew.alloc _).ext x1); (first | replace hR := hR.ext x1 | replace hR := (hR.alloc _).ext x1 | replace hR := hR.drew.ext x1 | replace hR := (hR.drew.alloc _).ext x1); (first | replace hS := hS.ext x1 | replace hS := (hS.alloc _).ext x1 | replace hS := hS.drew.ext x1 | replace hS := (hS.drew.alloc _).ext x1)
    have hX : Box2 (w1.alloc (.cells #[.int .u64 (hi (mag a)), .int .u64 (lo (mag a))] 123)) w1.heap.size (.int .u64 (hi (mag a))) (.int .u64 (lo (mag a))) 123 := Box2.new rfl
    replace hB := hB.alloc (.cells #[.int .u64 (hi (mag a)), .int .u64 (lo (mag a))] 123)
    replace hR := hR.alloc (.cells #[.int .u64 (hi (mag a)), .int .u64 (lo (mag a))] 123)
    replace hS := hS.alloc (.cells #[.int .u64 (hi (mag a)), .int .u64 (lo (mag a))] 123)
    have hB_0 := hB.c0; have hB_1 := hB.c1
    go_wp2_with fail
    clear hB_0 hB_1
    refine (H1.out _ _ hb).mono ?_
    rintro e w2 ⟨rfl, x2⟩
    clear hB
    (first | replace xw := Ext.trans xw x2 | replace xw := Ext.trans (Ext.alloc xw) x2 | replace xw := Ext.trans (Ext.drew xw) x2 | replace xw := Ext.trans (Ext.alloc (Ext.drew xw)) x2); (first | replace hX := hX.ext x2 | replace hX := (hX.alloc _).ext x2 | replace hX := hX.drew.ext x2 | replace hX := (hX.drew.alloc _).ext x2); (first | replace hR := hR.ext x2 | replace hR := (hR.alloc _).ext x2 | replace hR := hR.drew.ext x2 | replace hR := (hR.drew.alloc _).ext x2); (first | replace hS := hS.ext x2 | replace hS := (hS.alloc _).ext x2 | replace hS := hS.drew.ext x2 | replace hS := (hS.drew.alloc _).ext x2)
    have hY : Box2 (w2.alloc (.cells #[.int .u64 (hi (mag b)), .int .u64 (lo (mag b))] 123)) w2.heap.size (.int .u64 (hi (mag b))) (.int .u64 (lo (mag b))) 123 := Box2.new rfl
    replace hX := hX.alloc (.cells #[.int .u64 (hi (mag b)), .int .u64 (lo (mag b))] 123)
    replace hR := hR.alloc (.cells #[.int .u64 (hi (mag b)), .int .u64 (lo (mag b))] 123)
    replace hS := hS.alloc (.cells #[.int .u64 (hi (mag b)), .int .u64 (lo (mag b))] 123)
    have hX_0 := hX.c0; have hX_1 := hX.c1; have hY_0 := hY.c0; have hY_1 := hY.c1
    go_wp2_with fail
    clear hX_0 hX_1 hY_0 hY_1
    clear hX hY
    refine (H2.out _).mono ?_
    rintro e w3 ⟨rfl, x3⟩
    (first | replace xw := Ext.trans xw x3 | replace xw := Ext.trans (Ext.alloc xw) x3 | replace xw := Ext.trans (Ext.drew xw) x3 | replace xw := Ext.trans (Ext.alloc (Ext.drew xw)) x3); (first | replace hR := hR.ext x3 | replace hR := (hR.alloc _).ext x3 | replace hR := hR.drew.ext x3 | replace hR := (hR.drew.alloc _).ext x3); (first | replace hS := hS.ext x3 | replace hS := (hS.alloc _).ext x3 | replace hS := hS.drew.ext x3 | replace hS := (hS.drew.alloc _).ext x3)
    obtain ⟨V, hV⟩ : ∃ V, V = (w3.alloc (.cells #[.int .u64 (hi (mag a / mag b)), .int .u64 (lo (mag a / mag b))] 123)).alloc (.cells #[.int .u64 (hi (mag a % mag b)), .int .u64 (lo (mag a % mag b))] 123) := ⟨_, rfl⟩
    have hP : Box2 ((w3.alloc (.cells #[.int .u64 (hi (mag a / mag b)), .int .u64 (lo (mag a / mag b))] 123)).alloc (.cells #[.int .u64 (hi (mag a % mag b)), .int .u64 (lo (mag a % mag b))] 123)) w3.heap.size (.int .u64 (hi (mag a / mag b))) (.int .u64 (lo (mag a / mag b))) 123 := (Box2.new rfl).alloc _
    have hQ : Box2 ((w3.alloc (.cells #[.int .u64 (hi (mag a / mag b)), .int .u64 (lo (mag a / mag b))] 123)).alloc (.cells #[.int .u64 (hi (mag a % mag b)), .int .u64 (lo (mag a % mag b))] 123)) (w3.heap.size + 1) (.int .u64 (hi (mag a % mag b))) (.int .u64 (lo (mag a % mag b))) 123 := Box2.new (by simp)
    have hP_0 := hP.c0; have hP_1 := hP.c1
    go_wp2_with fail
    clear hP_0 hP_1
    clear hP
    replace hR := hR.named2 hV
    replace hS := hS.named2 hV
    rw [← hV] at hQ ⊢
    replace xw : Ext w V := by rw [hV]; exact Ext.alloc (Ext.alloc xw)
    clear hV x1 x2 x3
    refine (H3.out _ _ _ u1).mono ?_
    rw [E1.out]
    rintro e w4 ⟨rfl, x4⟩
    (first | replace xw := Ext.trans xw x4 | replace xw := Ext.trans (Ext.alloc xw) x4 | replace xw := Ext.trans (Ext.drew xw) x4 | replace xw := Ext.trans (Ext.alloc (Ext.drew xw)) x4); (first | replace hQ := hQ.ext x4 | replace hQ := (hQ.alloc _).ext x4 | replace hQ := hQ.drew.ext x4 | replace hQ := (hQ.drew.alloc _).ext x4); (first | replace hR := hR.ext x4 | replace hR := (hR.alloc _).ext x4 | replace hR := hR.drew.ext x4 | replace hR := (hR.drew.alloc _).ext x4); (first | replace hS := hS.ext x4 | replace hS := (hS.alloc _).ext x4 | replace hS := hS.drew.ext x4 | replace hS := (hS.drew.alloc _).ext x4)
    have y4 := hS.kind.lt
    by_cases hq : W128 (a.tdiv b)
    · rw [thi_yes hq, tlo_yes hq, ter_yes hq]
      have hN : Box2 (w4.alloc (.cells #[.int .i64 (hi (a.tdiv b)), .int .u64 (lo (a.tdiv b))] 26)) w4.heap.size (.int .i64 (hi (a.tdiv b))) (.int .u64 (lo (a.tdiv b))) 26 := Box2.new rfl
      replace hQ := hQ.alloc (.cells #[.int .i64 (hi (a.tdiv b)), .int .u64 (lo (a.tdiv b))] 26)
      replace hR := hR.alloc (.cells #[.int .i64 (hi (a.tdiv b)), .int .u64 (lo (a.tdiv b))] 26)
      replace hS := hS.alloc (.cells #[.int .i64 (hi (a.tdiv b)), .int .u64 (lo (a.tdiv b))] 26)
      have hQ_0 := hQ.c0; have hQ_1 := hQ.c1
      go_wp2_with fail
      clear hQ_0 hQ_1
      clear hQ
      refine (H3.out _ _ _ u2).mono ?_
      rw [E2.out]
      rintro e w5 ⟨rfl, x5⟩
      rw [thi_yes hrW, tlo_yes hrW, ter_yes hrW]
      (first | replace xw := Ext.trans xw x5 | replace xw := Ext.trans (Ext.alloc xw) x5 | replace xw := Ext.trans (Ext.drew xw) x5 | replace xw := Ext.trans (Ext.alloc (Ext.drew xw)) x5); (first | replace hN := hN.ext x5 | replace hN := (hN.alloc _).ext x5 | replace hN := hN.drew.ext x5 | replace hN := (hN.drew.alloc _).ext x5); (first | replace hR := hR.ext x5 | replace hR := (hR.alloc _).ext x5 | replace hR := hR.drew.ext x5 | replace hR := (hR.drew.alloc _).ext x5); (first | replace hS := hS.ext x5 | replace hS := (hS.alloc _).ext x5 | replace hS := hS.drew.ext x5 | replace hS := (hS.drew.alloc _).ext x5)
      have y5 := hS.kind.lt
      have hM : Box2 (w5.alloc (.cells #[.int .i64 (hi (a.tmod b)), .int .u64 (lo (a.tmod b))] 26)) w5.heap.size (.int .i64 (hi (a.tmod b))) (.int .u64 (lo (a.tmod b))) 26 := Box2.new rfl
      replace hN := hN.alloc (.cells #[.int .i64 (hi (a.tmod b)), .int .u64 (lo (a.tmod b))] 26)
      replace hR := hR.alloc (.cells #[.int .i64 (hi (a.tmod b)), .int .u64 (lo (a.tmod b))] 26)
      replace hS := hS.alloc (.cells #[.int .i64 (hi (a.tmod b)), .int .u64 (lo (a.tmod b))] 26)
      go_wp2_with fail
      obtain ⟨U, hU⟩ : ∃ U, U = w5.alloc (.cells #[.int .i64 (hi (a.tmod b)), .int .u64 (lo (a.tmod b))] 26) := ⟨_, rfl⟩
      replace xw : Ext w U := by rw [hU]; exact Ext.alloc xw
      rw [← hU] at hM hN hR hS ⊢
      clear hU x4 x5
      have hM_0 := hM.c0; have hM_1 := hM.c1; have hN_0 := hN.c0; have hN_1 := hN.c1; have hR_0 := hR.c0; have hR_1 := hR.c1; have hS_0 := hS.c0; have hS_1 := hS.c1
      have hR_2 := hR.f0; have hR_3 := hR.f1; have hS_2 := hS.f0; have hS_3 := hS.f1
      have n1 : ¬ w4.heap.size = w.heap.size + 1 + 1 := by omega
      have n2 : ¬ w4.heap.size = w.heap.size + 1 + 1 + 1 := by omega
      have n3 : ¬ w5.heap.size = w.heap.size + 1 + 1 := by omega
      have n4 : ¬ w5.heap.size = w.heap.size + 1 + 1 + 1 := by omega
      have n5 : ¬ w.heap.size + 1 + 1 = w4.heap.size := by omega
      have n6 : ¬ w.heap.size + 1 + 1 + 1 = w4.heap.size := by omega
      have n7 : ¬ w.heap.size + 1 + 1 = w5.heap.size := by omega
      have n8 : ¬ w.heap.size + 1 + 1 + 1 = w5.heap.size := by omega
      go_region
      go_wp2_with fail
      refine bodyPost_ret (v := .tuple #[.agg #[.int .i64 (hi (a.tdiv b)), .int .u64 (lo (a.tdiv b))], .agg #[.int .i64 (hi (a.tmod b)), .int .u64 (lo (a.tmod b))], .int .i64 0]) (by simp [results, Try.results59, go_sem, hR_0, hR_1, hS_0, hS_1]) rfl (retQ_yes hq ?_)
      exact Ext.drew (Ext.set (Ext.set (Ext.set (Ext.set xw (by omega)) (by omega)) (by omega)) (by omega))
    · rw [thi_no hq, tlo_no hq, ter_no hq]
      replace hR := hR.alloc (.cells #[.int .i64 0, .int .u64 0] 26)
      replace hS := hS.alloc (.cells #[.int .i64 0, .int .u64 0] 26)
      have hR_0 := hR.c0; have hR_1 := hR.c1; have hS_0 := hS.c0; have hS_1 := hS.c1
      have hR_2 := hR.f0; have hR_3 := hR.f1; have hS_2 := hS.f0; have hS_3 := hS.f1
      go_wp2_with fail
      refine bodyPost_ret (v := .tuple #[.agg #[.int .i64 0, .int .u64 0], .agg #[.int .i64 0, .int .u64 0], .int .i64 2]) (by simp [results, Try.results59, go_sem, hR_0, hR_1, hS_0, hS_1]) rfl (retQ_no hq ?_)
      exact Ext.set (Ext.set (Ext.set (Ext.set (Ext.alloc xw) (by omega)) (by omega)) (by omega)) (by omega)
end Go.Proofs.Ytmkddcmfofabbaa
