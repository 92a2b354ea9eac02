/-
  Wide numbers: wide.Int, wide.Mul, wide.Times.
-/
import Derived.Test.YtmkddcmfofabbaaWb
import Derived.Deep.RegionHeld3
namespace Go.Proofs.Ytmkddcmfofabbaa
open Go Go.RowKit

def I64 (n : Int) : Prop := -9223372036854775808 ≤ n ∧ n ≤ 9223372036854775807
instance (n : Int) : Decidable (I64 n) := by unfold I64; infer_instance
def t64 (n : Int) : Int := if I64 n then n else 0
theorem wrap64_bd (n : Int) : -9223372036854775808 ≤ wrap64 n ∧ wrap64 n ≤ 9223372036854775807 := by unfold wrap64; omega
theorem int_yes {n : Int} (h : hi (wrap64 (lo n)) = hi n) (h' : lo (wrap64 (lo n)) = lo n) : I64 n ∧ wrap64 (lo n) = n := by
  have e := wide_eq.1 ⟨h, h'⟩
  have := wrap64_bd (lo n)
  rw [e] at this
  exact ⟨this, e⟩
theorem int_no {n : Int} (h : ¬ (hi (wrap64 (lo n)) = hi n ∧ lo (wrap64 (lo n)) = lo n)) : ¬ I64 n := by
  intro hi'
  apply h
  have e : wrap64 (lo n) = n := by unfold I64 at hi'; unfold wrap64 lo; omega
  rw [e]; exact ⟨rfl, rfl⟩

set_option maxRecDepth 100000 in
set_option maxHeartbeats 1600000 in
theorem wint (n : Int) (w : World) :
    Calls Try.prog 33 #[.agg #[.int .i64 (hi n), .int .u64 (lo n)]] w (fun e w' => e = .returned (.tuple #[.int .i64 (t64 n), .bool (decide (I64 n))]) ∧ Ext w w') := by
  obtain ⟨l0, l1⟩ := lo_bd n
  obtain ⟨b0, b1⟩ := wrap64_bd (lo n)
  have hA : Box2 (w.alloc (.cells #[.int .i64 (hi n), .int .u64 (lo n)] 26)) w.heap.size (.int .i64 (hi n)) (.int .u64 (lo n)) 26 := Box2.new rfl
  have hl : lo (wrap64 (lo n)) = lo n := by unfold wrap64 lo; omega
  have g2 : (lo (wrap64 (lo n)) == lo n) = true := by simpa using hl
  by_cases h1 : hi (wrap64 (lo n)) = hi n
  · have g1 : (hi (wrap64 (lo n)) == hi n) = true := by simpa using h1
    obtain ⟨i1, i2⟩ := int_yes h1 hl
    have H1 := Lib.hid i2
    clear hl h1 i2
    go_enter Try.func33, Try.ntmps33
    go_wp2_with fail
    go_region_held3 (fun w' => w'.cell? ⟨w.heap.size, 0, none⟩ = some (.int .i64 (hi n)) ∧ w'.cell? ⟨w.heap.size, 1, none⟩ = some (.int .u64 (lo n)))
      (first
        | exact ⟨(hA.drew.ext x1).c0, (hA.drew.ext x1).c1⟩
        | exact ⟨hA.drew.c0, hA.drew.c1⟩)
      (first
        | (go_at_call 32; refine (of_pure _ _ b0 b1).mono ?_; rintro e w1 ⟨rfl, x1⟩))
    go_wp2
    rw [show t64 n = n from if_pos i1, decide_eq_true i1]
    refine bodyPost_ret (v := .tuple #[.int .i64 (wrap64 (lo n)), .bool true]) (by simp [results, Try.results33, go_sem]) rfl ⟨by rw [H1.out], Ext.trans (Ext.refl w).alloc.drew x1⟩
  · have g1 : (hi (wrap64 (lo n)) == hi n) = false := by simpa using h1
    have i1 := int_no (n := n) (fun h => h1 h.1)
    clear hl h1
    go_enter Try.func33, Try.ntmps33
    go_wp2_with fail
    go_region_held3 (fun w' => w'.cell? ⟨w.heap.size, 0, none⟩ = some (.int .i64 (hi n)) ∧ w'.cell? ⟨w.heap.size, 1, none⟩ = some (.int .u64 (lo n)))
      (first
        | exact ⟨(hA.drew.ext x1).c0, (hA.drew.ext x1).c1⟩
        | exact ⟨hA.drew.c0, hA.drew.c1⟩)
      (first
        | (go_at_call 32; refine (of_pure _ _ b0 b1).mono ?_; rintro e w1 ⟨rfl, x1⟩))
    go_wp2
    rw [show t64 n = 0 from if_neg i1, decide_eq_false i1]
    refine bodyPost_ret (v := .tuple #[.int .i64 0, .bool false]) (by simp [results, Try.results33, go_sem]) rfl ⟨rfl, Ext.trans (Ext.refl w).alloc.drew x1⟩

theorem bne_of (a b : Bool) : (!(a == b)) = xor a b := by cases a <;> cases b <;> rfl
theorem mag_mul (m n : Int) : wsg (!(decide (m < 0) == decide (n < 0))) (mag m * mag n) = m * n := by
  by_cases a : m < 0 <;> by_cases b : n < 0
  · simp [a, b, mag_neg, wsg_f]; grind
  · simp [a, b, mag_neg a, mag_pos (Int.not_lt.1 b), wsg_t]; grind
  · simp [a, b, mag_neg b, mag_pos (Int.not_lt.1 a), wsg_t]; grind
  · simp [a, b, mag_pos (Int.not_lt.1 a), mag_pos (Int.not_lt.1 b), wsg_f]
theorem mag_of_mul (m n : Int) : mag (m * n) = mag m * mag n := by
  have h1 := mag_mul m n
  have h2 : 0 ≤ mag m * mag n := Int.mul_nonneg (by unfold mag; split <;> omega) (by unfold mag; split <;> omega)
  rw [← h1]
  generalize mag m * mag n = p at *
  generalize (!(decide (m < 0) == decide (n < 0))) = b
  cases b
  · exact mag_pos h2
  · rw [wsg_t]; unfold mag; split <;> omega
theorem mul_room {m n : Int} (hm : I64 m) (hn : I64 n) : 0 ≤ mag m * mag n ∧ mag m * mag n ≤ 85070591730234615865843651857942052864 := by
  obtain ⟨p0, p1⟩ := mag_bd hm.1 hm.2
  obtain ⟨q0, q1⟩ := mag_bd hn.1 hn.2
  exact ⟨Int.mul_nonneg p0 q0, Int.le_trans (Int.mul_le_mul p1 q1 q0 (by omega)) (by decide)⟩
theorem mag_le (n : Int) : -mag n ≤ n ∧ n ≤ mag n := by unfold mag; split <;> omega
theorem mul_W {m n : Int} (hm : I64 m) (hn : I64 n) : W128 (m * n) := by
  have h := mul_room hm hn
  rw [← mag_of_mul] at h
  have := mag_le (m * n)
  unfold W128; omega

set_option maxRecDepth 100000 in
set_option maxHeartbeats 1600000 in
theorem wmul (m n : Int) (w : World) (hm : I64 m) (hn : I64 n) :
    Calls Try.prog 30 #[.int .i64 m, .int .i64 n] w (fun e w' => e = .returned (.agg #[.int .i64 (hi (m * n)), .int .u64 (lo (m * n))]) ∧ Ext w w') := by
  obtain ⟨P0, P1⟩ := mul_room hm hn
  have hW := mul_W hm hn
  have hS := Lib.hid (mag_mul m n)
  obtain ⟨m0, m1⟩ := hm
  obtain ⟨n0, n1⟩ := hn
  obtain ⟨p0, p1⟩ := mag_bd m0 m1
  obtain ⟨q0, q1⟩ := mag_bd n0 n1
  obtain ⟨l0, l1⟩ := lo_bd (mag m * mag n)
  have h0 : 0 ≤ hi (mag m * mag n) := by unfold hi; omega
  have h1 : hi (mag m * mag n) < 18446744073709551616 := by unfold hi; omega
  have H1 := Lib.hid bare_any
  have H2 := Lib.hid mul64
  have H3 := Lib.hid signed_any
  go_enter Try.func30, Try.ntmps30
  go_wp2_with fail
  refine (H1.out _ _ m0 m1).mono ?_
  rintro e w1 ⟨rfl, rfl⟩
  go_wp2_with fail
  refine (H1.out _ _ n0 n1).mono ?_
  rintro e w1 ⟨rfl, rfl⟩
  go_wp2_with fail
  refine (H2.out _ _ (by omega) (by omega) (by omega) (by omega) _).mono ?_
  rintro e w1 ⟨rfl, rfl⟩
  go_wp2_with fail
  refine (H3.out _ _ _ _ h0 h1 l0 l1).mono ?_
  rw [← hi_lo, hS.out]
  rintro e w1 ⟨rfl, x1⟩
  rw [thi_yes hW, tlo_yes hW, ter_yes hW]
  have b2 := (newA x1).alloc (.cells #[.int .i64 (hi (m * n)), .int .u64 (lo (m * n))] 26)
  have q0 := b2.c0
  have q1 := b2.c1
  have q2 := b2.f0
  have q3 := b2.f1
  have z1 := Ext.size x1
  simp only [World.size_alloc] at z1
  go_wp2_with fail
  refine bodyPost_ret (v := .agg #[.int .i64 (hi (m * n)), .int .u64 (lo (m * n))]) (by simp [results, Try.results30, go_sem, q0, q1]) rfl ⟨rfl, (by repeat (first | exact Ext.refl _ | refine Ext.alloc ?_ | refine Ext.drew ?_ | refine Ext.drewN ?_ | refine Ext.set ?_ (Ext.size ?_) | refine Ext.set ?_ (Ext.size1 ?_) | refine Ext.set ?_ (Ext.size2 ?_) | refine Ext.trans ?_ (by assumption)))⟩

set_option maxRecDepth 100000 in
set_option maxHeartbeats 1600000 in
theorem wtimes (v n : Int) (w : World) (hv : W128 v) (hn : I64 n) :
    Calls Try.prog 43 #[.agg #[.int .i64 (hi v), .int .u64 (lo v)], .int .i64 n] w (RetT w (v * n)) := by
  have hS := Lib.hid (mag_mul v n)
  have hM := Lib.hid (mag_of_mul v n)
  have hL := mag_le (v * n)
  obtain ⟨v0, v1⟩ := mag_W hv
  obtain ⟨n0, n1⟩ := hn
  obtain ⟨b0, b1⟩ := mag_bd n0 n1
  obtain ⟨al0, al1⟩ := lo_bd (mag v)
  have ah0 : 0 ≤ hi (mag v) := by unfold hi; omega
  have ah1 : hi (mag v) ≤ 9223372036854775808 := by unfold hi; omega
  have eP : mag v * mag n = hi (mag v) * mag n * 18446744073709551616 + lo (mag v) * mag n := by
    have := hi_lo (mag v)
    grind
  have X0 : 0 ≤ hi (mag v) * mag n := Int.mul_nonneg ah0 b0
  have X1 : hi (mag v) * mag n ≤ 85070591730234615865843651857942052864 := Int.le_trans (Int.mul_le_mul ah1 b1 b0 (by omega)) (by decide)
  have Y0 : 0 ≤ lo (mag v) * mag n := Int.mul_nonneg al0 b0
  have Y1 : lo (mag v) * mag n ≤ 170141183460469231731687303715884105728 := Int.le_trans (Int.mul_le_mul (Int.le_of_lt al1) b1 b0 (by omega)) (by decide)
  have eX := hi_lo (hi (mag v) * mag n)
  have eY := hi_lo (lo (mag v) * mag n)
  obtain ⟨xl0, xl1⟩ := lo_bd (hi (mag v) * mag n)
  obtain ⟨yl0, yl1⟩ := lo_bd (lo (mag v) * mag n)
  have xh0 : 0 ≤ hi (hi (mag v) * mag n) := by unfold hi; unfold hi at X0; omega
  have xh1 : hi (hi (mag v) * mag n) ≤ 4611686018427387904 := by unfold hi; unfold hi at X1; omega
  have yh0 : 0 ≤ hi (lo (mag v) * mag n) := by unfold hi; omega
  have yh1 : hi (lo (mag v) * mag n) ≤ 9223372036854775808 := by unfold hi; omega
  have H1 := Lib.hid bare_any
  have H2 := Lib.hid mul64
  have H3 := Lib.hid signed_any
  have H4 := Lib.hid parts_any
  have EP := Lib.hid eP
  have EX := Lib.hid eX
  have EY := Lib.hid eY
  clear eP eX eY
  have r98 := run_add64'
  have c0 : 0 ≤ (lo (hi (mag v) * mag n) + hi (lo (mag v) * mag n)) / 18446744073709551616 := by omega
  have c1 : (lo (hi (mag v) * mag n) + hi (lo (mag v) * mag n)) / 18446744073709551616 ≤ 1 := by omega
  go_enter Try.func43, Try.ntmps43
  go_wp2_with fail
  refine (H4.out _ _ hv).mono ?_
  rintro e w1 ⟨rfl, x1⟩
  go_wp2_with fail
  refine (H1.out _ _ n0 n1).mono ?_
  rintro e w2 ⟨rfl, rfl⟩
  go_wp2_with fail
  refine (H2.out _ _ (by omega) (by omega) (by omega) (by omega) _).mono ?_
  rintro e w3 ⟨rfl, rfl⟩
  go_wp2_with fail
  refine (H2.out _ _ (by omega) (by omega) (by omega) (by omega) _).mono ?_
  rintro e w4 ⟨rfl, rfl⟩
  have b2 := newB x1
  have q0 := b2.2.c0
  have q1 := b2.2.c1
  have q2 := b2.2.f0
  have q3 := b2.2.f1
  go_wp2_with fail
  · clear r98 H1 H2 H3 H4
    have e1 := EP.out
    have e2 := EX.out
    have e3 := EY.out
    have e4 := hM.out
    refine bodyPost_ret (v := .tuple #[.agg #[.int .i64 0, .int .u64 0], .int .i64 2]) (by simp [results, Try.results43, go_sem, q0, q1]) rfl (retT_no (fun h => ?_) (by repeat (first | exact Ext.refl _ | refine Ext.alloc ?_ | refine Ext.drew ?_ | refine Ext.drewN ?_ | refine Ext.set ?_ (Ext.size ?_) | refine Ext.set ?_ (Ext.size1 ?_) | refine Ext.set ?_ (Ext.size2 ?_) | refine Ext.trans ?_ (by assumption))))
    have := mag_W h
    omega
  · have e0 : (lo (hi (mag v) * mag n) + hi (lo (mag v) * mag n)) % 18446744073709551616 * 18446744073709551616 + lo (lo (mag v) * mag n) = mag v * mag n := by
      have e1 := EP.out
      have e2 := EX.out
      have e3 := EY.out
      omega
    refine (H3.out _ _ _ _ (by omega) (by omega) yl0 yl1).mono ?_
    rw [e0, hS.out]
    rintro e w5 ⟨rfl, x2⟩
    have b3 := b2.2.ext x2
    have q0 := b3.c0
    have q1 := b3.c1
    have q2 := b3.f0
    have q3 := b3.f1
    have z1 := Ext.size x1
    have z2 := Ext.size x2
    simp only [World.size_alloc] at z1
    go_wp2_with fail
    refine bodyPost_ret (v := .tuple #[.agg #[.int .i64 (thi (v * n)), .int .u64 (tlo (v * n))], .int .i64 (ter (v * n))]) (by simp [results, Try.results43, go_sem, q0, q1]) rfl ⟨rfl, (by repeat (first | exact Ext.refl _ | refine Ext.alloc ?_ | refine Ext.drew ?_ | refine Ext.drewN ?_ | refine Ext.set ?_ (Ext.size ?_) | refine Ext.set ?_ (Ext.size1 ?_) | refine Ext.set ?_ (Ext.size2 ?_) | refine Ext.trans ?_ (by assumption)))⟩

end Go.Proofs.Ytmkddcmfofabbaa
