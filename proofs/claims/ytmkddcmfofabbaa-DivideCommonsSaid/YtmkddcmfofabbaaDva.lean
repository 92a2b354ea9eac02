/-
  divide's numbers without signs: parts, signed, over by a number of 64 bits.
-/
import Derived.Test.YtmkddcmfofabbaaText
import Derived.Test.YtmkddcmfofabbaaLwProds
namespace Go.Proofs.Ytmkddcmfofabbaa
open Go Go.RowKit

def U128 (n : Int) : Prop := 0 ≤ n ∧ n < 340282366920938463463374607431768211456
theorem mag_U {n : Int} (h : W128 n) : U128 (mag n) := by have := mag_W h; unfold U128; omega
theorem hi_U {n : Int} (h : U128 n) : 0 ≤ hi n ∧ hi n < 18446744073709551616 := by unfold U128 at h; unfold hi; omega

set_option maxRecDepth 100000 in
set_option maxHeartbeats 1600000 in
theorem dparts (n : Int) (w : World) (hn : W128 n) :
    Calls Try.prog 104 #[.agg #[.int .i64 (hi n), .int .u64 (lo n)]] w (fun e w' => e = .returned (.tuple #[.agg #[.int .u64 (hi (mag n)), .int .u64 (lo (mag n))], .bool (decide (n < 0))]) ∧ Ext w w') := by
  have r102 := run_sub64'
  obtain ⟨a0, a1⟩ := lo_bd n
  obtain ⟨a2, a3⟩ := hi_bd hn
  have c0 : 0 ≤ bor 0 (lo n) 0 := by rw [bor_def]; omega
  have c1 : bor 0 (lo n) 0 ≤ 1 := by rw [bor_def]; omega
  have u1 := u64_nonneg (hi n)
  have u2 := u64_lt (hi n)
  go_enter Try.func104, Try.ntmps104
  go_wp2
  · clear r102
    have e3 : n < 0 ↔ hi n < 0 := (hi_neg n).symm
    have e4 : decide (n < 0) = false := decide_eq_false (by omega)
    rw [mag_pos (n := n) (by omega), e4]
    refine bodyPost_ret (v := .tuple #[.agg #[.int .u64 (hi n), .int .u64 (lo n)], .bool false]) (by simp [results, Try.results104, go_sem]) rfl ⟨rfl, (by repeat (first | exact Ext.refl _ | refine Ext.alloc ?_ | refine Ext.drew ?_ | refine Ext.drewN ?_ | refine Ext.set ?_ (Ext.size ?_) | refine Ext.set ?_ (Ext.size1 ?_) | refine Ext.set ?_ (Ext.size2 ?_) | refine Ext.trans ?_ (by assumption)))⟩
  · clear r102
    have e3 : n < 0 ↔ hi n < 0 := (hi_neg n).symm
    have e4 : decide (n < 0) = true := decide_eq_true (by omega)
    rw [mag_neg (n := n) (by omega), e4]
    have e5 : (-IntKind.u64.wrap (hi n) - bor 0 (lo n) 0) % 18446744073709551616 = hi (-n) := by rw [u64_eq, bor_def]; unfold W128 at hn; unfold hi lo; omega
    have e6 : -lo n % 18446744073709551616 = lo (-n) := by unfold lo; omega
    refine bodyPost_ret (v := .tuple #[.agg #[.int .u64 (hi (-n)), .int .u64 (lo (-n))], .bool true]) (by simp [results, Try.results104, go_sem, e5, e6]) rfl ⟨rfl, (by repeat (first | exact Ext.refl _ | refine Ext.alloc ?_ | refine Ext.drew ?_ | refine Ext.drewN ?_ | refine Ext.set ?_ (Ext.size ?_) | refine Ext.set ?_ (Ext.size1 ?_) | refine Ext.set ?_ (Ext.size2 ?_) | refine Ext.trans ?_ (by assumption)))⟩

set_option maxRecDepth 100000 in
set_option maxHeartbeats 1600000 in
theorem dsigned (n : Int) (neg : Bool) (w : World) (hn : U128 n) :
    Calls Try.prog 106 #[.agg #[.int .u64 (hi n), .int .u64 (lo n)], .bool neg] w (RetT w (wsg neg n)) := by
  have H1 := Lib.hid wneg
  obtain ⟨a0, a1⟩ := lo_bd n
  obtain ⟨a2, a3⟩ := hi_U hn
  by_cases hs : n < 170141183460469231731687303715884105728
  · have hW : W128 n := by unfold U128 at hn; unfold W128; omega
    have hWn : W128 (-n) := by unfold U128 at hn; unfold W128; omega
    have h63 : hi n ≤ 9223372036854775807 := by unfold hi; omega
    clear hs
    cases neg
    · go_enter Try.func106, Try.ntmps106
      go_wp2_with fail
      refine bodyPost_ret (v := .tuple #[.agg #[.int .i64 (hi n), .int .u64 (lo n)], .int .i64 0]) (by simp [results, Try.results106, go_sem]) rfl (retT_yes hW rfl rfl (by repeat (first | exact Ext.refl _ | refine Ext.alloc ?_ | refine Ext.drew ?_ | refine Ext.drewN ?_ | refine Ext.set ?_ (Ext.size ?_) | refine Ext.set ?_ (Ext.size1 ?_) | refine Ext.set ?_ (Ext.size2 ?_) | refine Ext.trans ?_ (by assumption))))
    · go_enter Try.func106, Try.ntmps106
      go_wp2_with fail
      refine (H1.out _ _ hW).mono ?_
      rintro e w1 ⟨rfl, x1⟩
      have q := (((Box2.new (w := w.alloc (.cells #[.int .u64 (hi n), .int .u64 (lo n)] 123)) (u := .int .i64 0) (v := .int .u64 0) (t := 26) rfl).alloc (.cells #[.int .i64 (hi n), .int .u64 (lo n)] 26)).ext x1)
      rw [World.size_alloc] at q
      have q0 := q.c0
      have q1 := q.c1
      have q2 := q.f0
      have q3 := q.f1
      go_wp2_with fail
      refine bodyPost_ret (v := .tuple #[.agg #[.int .i64 (thi (-n)), .int .u64 (tlo (-n))], .int .i64 (ter (-n))]) (by simp [results, Try.results106, go_sem, q0, q1]) rfl ⟨rfl, (Ext.set (Ext.set (Ext.trans (Ext.refl w).alloc.alloc.alloc x1) (by omega)) (by omega))⟩
  · have hno : ¬ W128 n := by unfold W128; omega
    have hx : wrap64 (hi n) = hi n - 18446744073709551616 := by unfold U128 at hn; unfold hi wrap64; omega
    have hl : hi n - 18446744073709551616 < 0 := by omega
    cases neg
    · go_enter Try.func106, Try.ntmps106
      go_wp2_with fail
      all_goals
        refine bodyPost_ret (v := .tuple #[.agg #[.int .i64 0, .int .u64 0], .int .i64 2]) (by simp [results, Try.results106, go_sem]) rfl (retT_no hno (by repeat (first | exact Ext.refl _ | refine Ext.alloc ?_ | refine Ext.drew ?_ | refine Ext.drewN ?_ | refine Ext.set ?_ (Ext.size ?_) | refine Ext.set ?_ (Ext.size1 ?_) | refine Ext.set ?_ (Ext.size2 ?_) | refine Ext.trans ?_ (by assumption))))
    · by_cases he : n = 170141183460469231731687303715884105728
      · have e1 : hi n = 9223372036854775808 := by rw [he]; rfl
        have e2 : lo n = 0 := by rw [he]; rfl
        have e3 : hi (-n) = -9223372036854775808 := by rw [he]; rfl
        have e4 : lo (-n) = 0 := by rw [he]; rfl
        have hWn : W128 (-n) := by unfold W128; omega
        have E3 := Lib.hid e3
        have E4 := Lib.hid e4
        rw [e1, e2]
        clear hx hl hno hs he e1 e2 e3 e4 a0 a1 a2 a3
        have ew : wrap64 9223372036854775808 = -9223372036854775808 := by unfold wrap64; omega
        go_enter Try.func106, Try.ntmps106
        go_wp2_with fail
        refine bodyPost_ret (v := .tuple #[.agg #[.int .i64 (-9223372036854775808), .int .u64 0], .int .i64 0]) (by simp [results, Try.results106, go_sem]) rfl (retT_yes hWn E3.out.symm E4.out.symm (by repeat (first | exact Ext.refl _ | refine Ext.alloc ?_ | refine Ext.drew ?_ | refine Ext.drewN ?_ | refine Ext.set ?_ (Ext.size ?_) | refine Ext.set ?_ (Ext.size1 ?_) | refine Ext.set ?_ (Ext.size2 ?_) | refine Ext.trans ?_ (by assumption))))
      · have hnn : ¬ W128 (-n) := by unfold W128; omega
        have hne : ¬ (hi n - 18446744073709551616 = -9223372036854775808 ∧ lo n = 0) := by
          rintro ⟨g1, g2⟩
          have := hi_lo n
          omega
        clear he
        go_enter Try.func106, Try.ntmps106
        go_wp2_with fail
        all_goals
          refine bodyPost_ret (v := .tuple #[.agg #[.int .i64 0, .int .u64 0], .int .i64 2]) (by simp [results, Try.results106, go_sem]) rfl (retT_no hnn (by repeat (first | exact Ext.refl _ | refine Ext.alloc ?_ | refine Ext.drew ?_ | refine Ext.drewN ?_ | refine Ext.set ?_ (Ext.size ?_) | refine Ext.set ?_ (Ext.size1 ?_) | refine Ext.set ?_ (Ext.size2 ?_) | refine Ext.trans ?_ (by assumption))))

/-- A quotient and a rest of numbers without a sign. -/
def RetB (w : World) (q r : Int) (e : Ending) (w' : World) : Prop := e = .returned (.tuple #[.agg #[.int .u64 (hi q), .int .u64 (lo q)], .agg #[.int .u64 (hi r), .int .u64 (lo r)]]) ∧ Ext w w'
theorem small_hl {x : Int} (h0 : 0 ≤ x) (h1 : x < 18446744073709551616) : hi x = 0 ∧ lo x = x := by unfold hi lo; omega
theorem long_div (b d : Int) (d0 : 0 < d) (d1 : d < 18446744073709551616) :
    hi (b / d) = hi b / d ∧ lo (b / d) = (hi b % d * 18446744073709551616 + lo b) / d ∧ b % d = (hi b % d * 18446744073709551616 + lo b) % d ∧ True := by
  have e := hi_lo b
  obtain ⟨l0, l1⟩ := lo_bd b
  have e1 := Int.emod_add_mul_ediv (hi b) d
  have s0 := Int.emod_nonneg (hi b) (show d ≠ 0 by omega)
  have s1 := Int.emod_lt_of_pos (hi b) d0
  have e2 : b = (hi b % d * 18446744073709551616 + lo b) + d * (hi b / d * 18446744073709551616) := by
    have : d * (hi b / d * 18446744073709551616) = (d * (hi b / d)) * 18446744073709551616 := by rw [Int.mul_assoc]
    rw [this]
    generalize d * (hi b / d) = X at *
    omega
  have g1 : b / d = (hi b % d * 18446744073709551616 + lo b) / d + hi b / d * 18446744073709551616 := by
    conv => lhs; rw [e2]
    rw [Int.add_mul_ediv_left _ _ (by omega)]
  have g2 : b % d = (hi b % d * 18446744073709551616 + lo b) % d := by
    conv => lhs; rw [e2]
    rw [Int.add_mul_emod_self_left]
  have h0 : 0 ≤ (hi b % d * 18446744073709551616 + lo b) / d := Int.ediv_nonneg (by omega) (by omega)
  have h1 : (hi b % d * 18446744073709551616 + lo b) / d < 18446744073709551616 := Int.ediv_lt_of_lt_mul d0 (by omega)
  rw [g1]
  generalize (hi b % d * 18446744073709551616 + lo b) / d = q at *
  refine ⟨?_, ?_, g2, trivial⟩
  · unfold hi at *; omega
  · unfold lo at *; omega
set_option maxRecDepth 100000 in
set_option maxHeartbeats 1600000 in
theorem over_small (b d : Int) (w : World) (hb : U128 b) (d0 : 0 < d) (d1 : d < 18446744073709551616) :
    Calls Try.prog 105 #[.agg #[.int .u64 (hi b), .int .u64 (lo b)], .agg #[.int .u64 (hi d), .int .u64 (lo d)]] w (RetB w (b / d) (b % d)) := by
  obtain ⟨a0, a1⟩ := lo_bd b
  obtain ⟨a2, a3⟩ := hi_U hb
  obtain ⟨e1, e2⟩ := small_hl (by omega) d1
  rw [e1, e2]
  have r0 := Int.emod_nonneg b (show d ≠ 0 by omega)
  have r1 := Int.emod_lt_of_pos b d0
  obtain ⟨e3, e4⟩ := small_hl r0 (show b % d < 18446744073709551616 by omega)
  have HR := Lib.hid (show hi (b % d) = 0 ∧ lo (b % d) = b % d from ⟨e3, e4⟩)
  clear e1 e2 e3 e4
  by_cases hs : hi b = 0
  · have hb0 : b = lo b := by have := hi_lo b; omega
    have q0 : 0 ≤ lo b / d := Int.ediv_nonneg a0 (by omega)
    have q1 : lo b / d ≤ lo b := Int.ediv_le_self _ a0
    have s0 := Int.emod_nonneg (lo b) (show d ≠ 0 by omega)
    have s1 := Int.emod_lt_of_pos (lo b) d0
    have HB := Lib.hid hb0
    have HS := Lib.hid hs
    rw [hs]
    clear hs hb0 r0 r1
    go_enter Try.func105, Try.ntmps105
    go_wp2_with fail
    go_region
    go_wp2_with fail
    have hb0 := HB.out
    obtain ⟨f1, f2⟩ := small_hl q0 (show lo b / d < 18446744073709551616 by omega)
    obtain ⟨f3, f4⟩ := small_hl s0 (show lo b % d < 18446744073709551616 by omega)
    refine bodyPost_ret (v := .tuple #[.agg #[.int .u64 0, .int .u64 (lo b / d)], .agg #[.int .u64 0, .int .u64 (lo b % d)]]) (by simp [results, Try.results105, go_sem]) rfl ⟨?_, (by repeat (first | exact Ext.refl _ | refine Ext.alloc ?_ | refine Ext.drew ?_ | refine Ext.drewN ?_ | refine Ext.set ?_ (Ext.size ?_) | refine Ext.set ?_ (Ext.size1 ?_) | refine Ext.set ?_ (Ext.size2 ?_) | refine Ext.trans ?_ (by assumption)))⟩
    rw [show b / d = lo b / d from congrArg (· / d) hb0, show b % d = lo b % d from congrArg (· % d) hb0, f1, f2, f3, f4]
  · have hs' : (hi b == 0) = false := by simpa using hs
    have H1 := Lib.hid div64
    obtain ⟨k1, k2, k3, k4⟩ := long_div b d d0 d1
    have q0 : 0 ≤ hi b / d := Int.ediv_nonneg a2 (by omega)
    have q1 : hi b / d ≤ hi b := Int.ediv_le_self _ a2
    have s0 := Int.emod_nonneg (hi b) (show d ≠ 0 by omega)
    have s1 := Int.emod_lt_of_pos (hi b) d0
    have K1 := Lib.hid k1
    have K2 := Lib.hid k2
    have K3 := Lib.hid k3
    clear k1 k2 k3 k4 hs r0 r1
    go_enter Try.func105, Try.ntmps105
    go_wp2_with fail
    go_region
    go_wp2_with fail
    refine (H1.out _ _ _ _ s0 s1 d1 a0 a1).mono ?_
    rintro e w1 ⟨rfl, x1⟩
    rw [← K2.out, ← K3.out]
    have c := (((Box2.new (w := (w.alloc (.cells #[.int .u64 (hi b), .int .u64 (lo b)] 123)).alloc (.cells #[.int .u64 0, .int .u64 d] 123)) (u := .int .u64 0) (v := .int .u64 0) (t := 123) rfl).alloc (.cells #[.int .u64 0, .int .u64 0] 123)).drew).ext x1
    have c' := ((Box2.new (w := ((w.alloc (.cells #[.int .u64 (hi b), .int .u64 (lo b)] 123)).alloc (.cells #[.int .u64 0, .int .u64 d] 123)).alloc (.cells #[.int .u64 0, .int .u64 0] 123)) (u := .int .u64 0) (v := .int .u64 0) (t := 123) rfl).drew).ext x1
    simp only [World.size_alloc] at c c'
    have xw : Ext w w1 := Ext.trans (Ext.refl w).alloc.alloc.alloc.alloc.drew x1
    have z1 := c.kind.lt
    have z2 := c'.kind.lt
    have c0 := c.c0
    have c1 := c.c1
    have c2 := c.f0
    have c3 := c.f1
    have c4 := c'.c0
    have c5 := c'.c1
    have c6 := c'.f0
    have c7 := c'.f1
    go_wp2_with fail
    refine bodyPost_ret (v := .tuple #[.agg #[.int .u64 (hi b / d), .int .u64 (lo (b / d))], .agg #[.int .u64 0, .int .u64 (b % d)]]) (by simp [results, Try.results105, go_sem, c0, c1, c4, c5]) rfl ⟨by rw [K1.out, HR.out.1, HR.out.2], ?_⟩
    exact Ext.set (Ext.set (Ext.set (Ext.set xw (by omega)) (by omega)) (by omega)) (by omega)
end Go.Proofs.Ytmkddcmfofabbaa
