/-
  divide's numbers without signs: parts, signed, over by a number of 64 bits.
-/
import Derived.Test.YtcndfpfjckkinaaGc
import Derived.Test.YtcndfpfjckkinaaGd
namespace Go.Proofs.Ytcndfpfjckkinaa
open Go Go.RowKit

def U128 (n : Int) : Prop := 0 ≤ n ∧ n < 340282366920938463463374607431768211456
theorem mag_U {n : Int} (h : W128 n) : U128 (mag n) := by have := mag_W h; unfold U128; omega
theorem hi_U {n : Int} (h : U128 n) : 0 ≤ hi n ∧ hi n < 18446744073709551616 := by unfold U128 at h; unfold hi; omega

set_option maxRecDepth 100000 in
set_option maxHeartbeats 1600000 in
theorem dparts (n : Int) (w : World) (hn : W128 n) :
    Calls Try.prog 195 #[.agg #[.int .i64 (hi n), .int .u64 (lo n)]] w (fun e w' => e = .returned (.tuple #[.agg #[.int .u64 (hi (mag n)), .int .u64 (lo (mag n))], .bool (decide (n < 0))]) ∧ Ext w w') := by
  have r102 := run_sub64'
  obtain ⟨a0, a1⟩ := lo_bd n
  obtain ⟨a2, a3⟩ := hi_bd hn
  have c0 : 0 ≤ bor 0 (lo n) 0 := by rw [bor_def]; omega
  have c1 : bor 0 (lo n) 0 ≤ 1 := by rw [bor_def]; omega
  have u1 := u64_nonneg (hi n)
  have u2 := u64_lt (hi n)
  go_enter Try.func195, Try.ntmps195
  go_wp2
  · clear r102
    have e3 : n < 0 ↔ hi n < 0 := (hi_neg n).symm
    have e4 : decide (n < 0) = false := decide_eq_false (by omega)
    rw [mag_pos (n := n) (by omega), e4]
    refine bodyPost_ret (v := .tuple #[.agg #[.int .u64 (hi n), .int .u64 (lo n)], .bool false]) (by simp [results, Try.results195, go_sem]) rfl ⟨rfl, (by repeat (first | exact Ext.refl _ | refine Ext.alloc ?_ | refine Ext.drew ?_ | refine Ext.drewN ?_ | refine Ext.set ?_ (Ext.size ?_) | refine Ext.set ?_ (Ext.size1 ?_) | refine Ext.set ?_ (Ext.size2 ?_) | refine Ext.trans ?_ (by assumption)))⟩
  · clear r102
    have e3 : n < 0 ↔ hi n < 0 := (hi_neg n).symm
    have e4 : decide (n < 0) = true := decide_eq_true (by omega)
    rw [mag_neg (n := n) (by omega), e4]
    have e5 : (-IntKind.u64.wrap (hi n) - bor 0 (lo n) 0) % 18446744073709551616 = hi (-n) := by rw [u64_eq, bor_def]; unfold W128 at hn; unfold hi lo; omega
    have e6 : -lo n % 18446744073709551616 = lo (-n) := by unfold lo; omega
    refine bodyPost_ret (v := .tuple #[.agg #[.int .u64 (hi (-n)), .int .u64 (lo (-n))], .bool true]) (by simp [results, Try.results195, go_sem, e5, e6]) rfl ⟨rfl, (by repeat (first | exact Ext.refl _ | refine Ext.alloc ?_ | refine Ext.drew ?_ | refine Ext.drewN ?_ | refine Ext.set ?_ (Ext.size ?_) | refine Ext.set ?_ (Ext.size1 ?_) | refine Ext.set ?_ (Ext.size2 ?_) | refine Ext.trans ?_ (by assumption)))⟩

set_option maxRecDepth 100000 in
set_option maxHeartbeats 1600000 in
theorem dsigned (n : Int) (neg : Bool) (w : World) (hn : U128 n) :
    Calls Try.prog 197 #[.agg #[.int .u64 (hi n), .int .u64 (lo n)], .bool neg] w (RetT w (wsg neg n)) := by
  have H1 := Lib.hid wneg
  obtain ⟨a0, a1⟩ := lo_bd n
  obtain ⟨a2, a3⟩ := hi_U hn
  by_cases hs : n < 170141183460469231731687303715884105728
  · have hW : W128 n := by unfold U128 at hn; unfold W128; omega
    have hWn : W128 (-n) := by unfold U128 at hn; unfold W128; omega
    have h63 : hi n ≤ 9223372036854775807 := by unfold hi; omega
    clear hs
    cases neg
    · go_enter Try.func197, Try.ntmps197
      go_wp2_with fail
      refine bodyPost_ret (v := .tuple #[.agg #[.int .i64 (hi n), .int .u64 (lo n)], .int .i64 0]) (by simp [results, Try.results197, go_sem]) rfl (retT_yes hW rfl rfl (by repeat (first | exact Ext.refl _ | refine Ext.alloc ?_ | refine Ext.drew ?_ | refine Ext.drewN ?_ | refine Ext.set ?_ (Ext.size ?_) | refine Ext.set ?_ (Ext.size1 ?_) | refine Ext.set ?_ (Ext.size2 ?_) | refine Ext.trans ?_ (by assumption))))
    · go_enter Try.func197, Try.ntmps197
      go_wp2_with fail
      refine (H1.out _ _ hW).mono ?_
      rintro e w1 ⟨rfl, x1⟩
      have q := (((Box2.new (w := w.alloc (.cells #[.int .u64 (hi n), .int .u64 (lo n)] 213)) (u := .int .i64 0) (v := .int .u64 0) (t := 38) rfl).alloc (.cells #[.int .i64 (hi n), .int .u64 (lo n)] 38)).ext x1)
      rw [World.size_alloc] at q
      have q0 := q.c0
      have q1 := q.c1
      have q2 := q.f0
      have q3 := q.f1
      go_wp2_with fail
      refine bodyPost_ret (v := .tuple #[.agg #[.int .i64 (thi (-n)), .int .u64 (tlo (-n))], .int .i64 (ter (-n))]) (by simp [results, Try.results197, go_sem, q0, q1]) rfl ⟨rfl, (Ext.set (Ext.set (Ext.trans (Ext.refl w).alloc.alloc.alloc x1) (by omega)) (by omega))⟩
  · have hno : ¬ W128 n := by unfold W128; omega
    have hx : wrap64 (hi n) = hi n - 18446744073709551616 := by unfold U128 at hn; unfold hi wrap64; omega
    have hl : hi n - 18446744073709551616 < 0 := by omega
    cases neg
    · go_enter Try.func197, Try.ntmps197
      go_wp2_with fail
      all_goals
        refine bodyPost_ret (v := .tuple #[.agg #[.int .i64 0, .int .u64 0], .int .i64 2]) (by simp [results, Try.results197, go_sem]) rfl (retT_no hno (by repeat (first | exact Ext.refl _ | refine Ext.alloc ?_ | refine Ext.drew ?_ | refine Ext.drewN ?_ | refine Ext.set ?_ (Ext.size ?_) | refine Ext.set ?_ (Ext.size1 ?_) | refine Ext.set ?_ (Ext.size2 ?_) | refine Ext.trans ?_ (by assumption))))
    · by_cases he : n = 170141183460469231731687303715884105728
      · have e1 : hi n = 9223372036854775808 := by rw [he]; rfl
        have e2 : lo n = 0 := by rw [he]; rfl
        have e3 : hi (-n) = -9223372036854775808 := by rw [he]; rfl
        have e4 : lo (-n) = 0 := by rw [he]; rfl
        have hWn : W128 (-n) := by unfold W128; omega
        have E3 := Lib.hid e3
        have E4 := Lib.hid e4
        rw [e1, e2]
        clear hx hl hno hs he e1 e2 e3 e4 a0 a1 a2 a3
        have ew : wrap64 9223372036854775808 = -9223372036854775808 := by unfold wrap64; omega
        go_enter Try.func197, Try.ntmps197
        go_wp2_with fail
        refine bodyPost_ret (v := .tuple #[.agg #[.int .i64 (-9223372036854775808), .int .u64 0], .int .i64 0]) (by simp [results, Try.results197, go_sem]) rfl (retT_yes hWn E3.out.symm E4.out.symm (by repeat (first | exact Ext.refl _ | refine Ext.alloc ?_ | refine Ext.drew ?_ | refine Ext.drewN ?_ | refine Ext.set ?_ (Ext.size ?_) | refine Ext.set ?_ (Ext.size1 ?_) | refine Ext.set ?_ (Ext.size2 ?_) | refine Ext.trans ?_ (by assumption))))
      · have hnn : ¬ W128 (-n) := by unfold W128; omega
        have hne : ¬ (hi n - 18446744073709551616 = -9223372036854775808 ∧ lo n = 0) := by
          rintro ⟨g1, g2⟩
          have := hi_lo n
          omega
        clear he
        go_enter Try.func197, Try.ntmps197
        go_wp2_with fail
        all_goals
          refine bodyPost_ret (v := .tuple #[.agg #[.int .i64 0, .int .u64 0], .int .i64 2]) (by simp [results, Try.results197, go_sem]) rfl (retT_no hnn (by repeat (first | exact Ext.refl _ | refine Ext.alloc ?_ | refine Ext.drew ?_ | refine Ext.drewN ?_ | refine Ext.set ?_ (Ext.size ?_) | refine Ext.set ?_ (Ext.size1 ?_) | refine Ext.set ?_ (Ext.size2 ?_) | refine Ext.trans ?_ (by assumption))))

/-- A quotient and a rest of numbers without a sign. -/
def RetB (w : World) (q r : Int) (e : Ending) (w' : World) : Prop := e = .returned (.tuple #[.agg #[.int .u64 (hi q), .int .u64 (lo q)], .agg #[.int .u64 (hi r), .int .u64 (lo r)]]) ∧ Ext w w'
theorem small_hl {x : Int} (h0 : 0 ≤ x) (h1 : x < 18446744073709551616) : hi x = 0 ∧ lo x = x := by unfold hi lo; omega
theorem long_div (b d : Int) (d0 : 0 < d) (d1 : d < 18446744073709551616) :
    hi (b / d) = hi b / d ∧ lo (b / d) = (hi b % d * 18446744073709551616 + lo b) / d ∧ b % d = (hi b % d * 18446744073709551616 + lo b) % d ∧ True := by
  have e := hi_lo b
  obtain ⟨l0, l1⟩ := lo_bd b
  have e1 := Int.emod_add_mul_ediv (hi b) d
  have s0 := Int.emod_nonneg (hi b) (show d ≠ 0 by omega)
  have s1 := Int.emod_lt_of_pos (hi b) d0
  have e2 : b = (hi b % d * 18446744073709551616 + lo b) + d * (hi b / d * 18446744073709551616) := by
    have : d * (hi b / d * 18446744073709551616) = (d * (hi b / d)) * 18446744073709551616 := by rw [Int.mul_assoc]
    rw [this]
    generalize d * (hi b / d) = X at *
    omega
  have g1 : b / d = (hi b % d * 18446744073709551616 + lo b) / d + hi b / d * 18446744073709551616 := by
    conv => lhs; rw [e2]
    rw [Int.add_mul_ediv_left _ _ (by omega)]
  have g2 : b % d = (hi b % d * 18446744073709551616 + lo b) % d := by
    conv => lhs; rw [e2]
    rw [Int.add_mul_emod_self_left]
  have h0 : 0 ≤ (hi b % d * 18446744073709551616 + lo b) / d := Int.ediv_nonneg (by omega) (by omega)
  have h1 : (hi b % d * 18446744073709551616 + lo b) / d < 18446744073709551616 := Int.ediv_lt_of_lt_mul d0 (by omega)
  rw [g1]
  generalize (hi b % d * 18446744073709551616 + lo b) / d = q at *
  refine ⟨?_, ?_, g2, trivial⟩
  · unfold hi at *; omega
  · unfold lo at *; omega
set_option maxRecDepth 100000 in
set_option maxHeartbeats 1600000 in
theorem over_small (b d : Int) (w : World) (hb : U128 b) (d0 : 0 < d) (d1 : d < 18446744073709551616) :
    Calls Try.prog 196 #[.agg #[.int .u64 (hi b), .int .u64 (lo b)], .agg #[.int .u64 (hi d), .int .u64 (lo d)]] w (RetB w (b / d) (b % d)) := by
  obtain ⟨a0, a1⟩ := lo_bd b
  obtain ⟨a2, a3⟩ := hi_U hb
  obtain ⟨e1, e2⟩ := small_hl (by omega) d1
  rw [e1, e2]
  have r0 := Int.emod_nonneg b (show d ≠ 0 by omega)
  have r1 := Int.emod_lt_of_pos b d0
  obtain ⟨e3, e4⟩ := small_hl r0 (show b % d < 18446744073709551616 by omega)
  have HR := Lib.hid (show hi (b % d) = 0 ∧ lo (b % d) = b % d from ⟨e3, e4⟩)
  clear e1 e2 e3 e4
  by_cases hs : hi b = 0
  · have hb0 : b = lo b := by have := hi_lo b; omega
    have q0 : 0 ≤ lo b / d := Int.ediv_nonneg a0 (by omega)
    have q1 : lo b / d ≤ lo b := Int.ediv_le_self _ a0
    have s0 := Int.emod_nonneg (lo b) (show d ≠ 0 by omega)
    have s1 := Int.emod_lt_of_pos (lo b) d0
    have HB := Lib.hid hb0
    have HS := Lib.hid hs
    rw [hs]
    clear hs hb0 r0 r1
    go_enter Try.func196, Try.ntmps196
    go_wp2_with fail
    go_region
    go_wp2_with fail
    have hb0 := HB.out
    obtain ⟨f1, f2⟩ := small_hl q0 (show lo b / d < 18446744073709551616 by omega)
    obtain ⟨f3, f4⟩ := small_hl s0 (show lo b % d < 18446744073709551616 by omega)
    refine bodyPost_ret (v := .tuple #[.agg #[.int .u64 0, .int .u64 (lo b / d)], .agg #[.int .u64 0, .int .u64 (lo b % d)]]) (by simp [results, Try.results196, go_sem]) rfl ⟨?_, (by repeat (first | exact Ext.refl _ | refine Ext.alloc ?_ | refine Ext.drew ?_ | refine Ext.drewN ?_ | refine Ext.set ?_ (Ext.size ?_) | refine Ext.set ?_ (Ext.size1 ?_) | refine Ext.set ?_ (Ext.size2 ?_) | refine Ext.trans ?_ (by assumption)))⟩
    rw [show b / d = lo b / d from congrArg (· / d) hb0, show b % d = lo b % d from congrArg (· % d) hb0, f1, f2, f3, f4]
  · have hs' : (hi b == 0) = false := by simpa using hs
    have H1 := Lib.hid div64
    obtain ⟨k1, k2, k3, k4⟩ := long_div b d d0 d1
    have q0 : 0 ≤ hi b / d := Int.ediv_nonneg a2 (by omega)
    have q1 : hi b / d ≤ hi b := Int.ediv_le_self _ a2
    have s0 := Int.emod_nonneg (hi b) (show d ≠ 0 by omega)
    have s1 := Int.emod_lt_of_pos (hi b) d0
    have K1 := Lib.hid k1
    have K2 := Lib.hid k2
    have K3 := Lib.hid k3
    clear k1 k2 k3 k4 hs r0 r1
    go_enter Try.func196, Try.ntmps196
    go_wp2_with fail
    go_region
    go_wp2_with fail
    refine (H1.out _ _ _ _ s0 s1 d1 a0 a1).mono ?_
    rintro e w1 ⟨rfl, x1⟩
    rw [← K2.out, ← K3.out]
    have c := (((Box2.new (w := (w.alloc (.cells #[.int .u64 (hi b), .int .u64 (lo b)] 213)).alloc (.cells #[.int .u64 0, .int .u64 d] 213)) (u := .int .u64 0) (v := .int .u64 0) (t := 213) rfl).alloc (.cells #[.int .u64 0, .int .u64 0] 213)).drew).ext x1
    have c' := ((Box2.new (w := ((w.alloc (.cells #[.int .u64 (hi b), .int .u64 (lo b)] 213)).alloc (.cells #[.int .u64 0, .int .u64 d] 213)).alloc (.cells #[.int .u64 0, .int .u64 0] 213)) (u := .int .u64 0) (v := .int .u64 0) (t := 213) rfl).drew).ext x1
    simp only [World.size_alloc] at c c'
    have xw : Ext w w1 := Ext.trans (Ext.refl w).alloc.alloc.alloc.alloc.drew x1
    have z1 := c.kind.lt
    have z2 := c'.kind.lt
    have c0 := c.c0
    have c1 := c.c1
    have c2 := c.f0
    have c3 := c.f1
    have c4 := c'.c0
    have c5 := c'.c1
    have c6 := c'.f0
    have c7 := c'.f1
    go_wp2_with fail
    refine bodyPost_ret (v := .tuple #[.agg #[.int .u64 (hi b / d), .int .u64 (lo (b / d))], .agg #[.int .u64 0, .int .u64 (b % d)]]) (by simp [results, Try.results196, go_sem, c0, c1, c4, c5]) rfl ⟨by rw [K1.out, HR.out.1, HR.out.2], ?_⟩
    exact Ext.set (Ext.set (Ext.set (Ext.set xw (by omega)) (by omega)) (by omega)) (by omega)
end Go.Proofs.Ytcndfpfjckkinaa

/-
  divide.Trunc.
-/
namespace Go.Proofs.Ytcndfpfjckkinaa
open Go Go.RowKit

theorem tdiv_mag (a b : Int) : wsg (!(decide (a < 0) == decide (b < 0))) (mag a / mag b) = a.tdiv b := by
  by_cases ha : a < 0 <;> by_cases hb : b < 0
  · rw [decide_eq_true ha, decide_eq_true hb, mag_neg ha, mag_neg hb]
    show -a / -b = _
    rw [← Int.tdiv_eq_ediv_of_nonneg (by omega), Int.neg_tdiv, Int.tdiv_neg]; simp
  · rw [decide_eq_true ha, decide_eq_false hb, mag_neg ha, mag_pos (by omega)]
    show -(-a / b) = _
    rw [← Int.tdiv_eq_ediv_of_nonneg (by omega), Int.neg_tdiv]; simp
  · rw [decide_eq_false ha, decide_eq_true hb, mag_neg hb, mag_pos (by omega)]
    show -(a / -b) = _
    rw [← Int.tdiv_eq_ediv_of_nonneg (by omega), Int.tdiv_neg]; simp
  · rw [decide_eq_false ha, decide_eq_false hb, mag_pos (by omega), mag_pos (by omega)]
    show a / b = _
    rw [Int.tdiv_eq_ediv_of_nonneg (by omega)]
theorem tmod_mag (a b : Int) : wsg (decide (a < 0)) (mag a % mag b) = a.tmod b := by
  have key : ∀ x : Int, 0 ≤ x → x % mag b = x.tmod b := by
    intro x hx
    by_cases hb : b < 0
    · rw [mag_neg hb, ← Int.tmod_eq_emod_of_nonneg hx, Int.tmod_neg]
    · rw [mag_pos (by omega), Int.tmod_eq_emod_of_nonneg hx]
  by_cases ha : a < 0
  · rw [decide_eq_true ha, mag_neg ha, wsg_t, key _ (by omega), Int.neg_tmod]; simp
  · rw [decide_eq_false ha, mag_pos (by omega), wsg_f, key _ (by omega)]
def qh (q r : Int) : Int := if W128 q then hi r else 0
def ql (q r : Int) : Int := if W128 q then lo r else 0
/-- A call that returns a quotient, a rest and 0, or none and 2. -/
def RetQ (w : World) (q r : Int) (e : Ending) (w' : World) : Prop :=
  e = .returned (.tuple #[.agg #[.int .i64 (thi q), .int .u64 (tlo q)], .agg #[.int .i64 (qh q r), .int .u64 (ql q r)], .int .i64 (ter q)]) ∧ Ext w w'
theorem retQ_yes {w w' : World} {q r : Int} (h : W128 q) (x : Ext w w') : RetQ w q r (.returned (.tuple #[.agg #[.int .i64 (hi q), .int .u64 (lo q)], .agg #[.int .i64 (hi r), .int .u64 (lo r)], .int .i64 0])) w' := by
  refine ⟨?_, x⟩
  rw [thi_yes h, tlo_yes h, ter_yes h, show qh q r = hi r from if_pos h, show ql q r = lo r from if_pos h]
theorem retQ_no {w w' : World} {q r : Int} (h : ¬ W128 q) (x : Ext w w') : RetQ w q r (.returned (.tuple #[.agg #[.int .i64 0, .int .u64 0], .agg #[.int .i64 0, .int .u64 0], .int .i64 2])) w' := by
  refine ⟨?_, x⟩
  rw [thi_no h, tlo_no h, ter_no h, show qh q r = 0 from if_neg h, show ql q r = 0 from if_neg h]
/-- over is right at b and d. -/
def OverC (b d : Int) : Prop := ∀ w, Calls Try.prog 196 #[.agg #[.int .u64 (hi b), .int .u64 (lo b)], .agg #[.int .u64 (hi d), .int .u64 (lo d)]] w (RetB w (b / d) (b % d))
theorem mag_zero {b : Int} (h : b ≠ 0) : 0 < mag b := by unfold mag; split <;> omega
theorem div_U {a b : Int} (ha : W128 a) (hb : W128 b) (h : b ≠ 0) : U128 (mag a / mag b) ∧ U128 (mag a % mag b) := by
  have h0 := mag_zero h
  have h1 := mag_W ha
  have h2 := mag_W hb
  have := Int.ediv_le_self (mag b) h1.1
  have := Int.ediv_nonneg h1.1 h2.1
  have := Int.emod_nonneg (mag a) (show mag b ≠ 0 by omega)
  have := Int.emod_lt_of_pos (mag a) h0
  unfold U128
  omega
theorem tmod_W {a b : Int} (hb : W128 b) (h : b ≠ 0) : W128 (a.tmod b) := by
  rw [← tmod_mag]
  have h0 := mag_zero h
  have h2 := mag_W hb
  have := Int.emod_nonneg (mag a) (show mag b ≠ 0 by omega)
  have := Int.emod_lt_of_pos (mag a) h0
  unfold W128
  cases decide (a < 0)
  · rw [wsg_f]; omega
  · rw [wsg_t]; omega

theorem Box2.named2 {V w : World} {k : Nat} {u v : Value} {t : TypeId} {o o' : Obj} (h : Box2 w k u v t) (e : V = (w.alloc o).alloc o') : Box2 V k u v t := by rw [e]; exact (h.alloc o).alloc o'
set_option maxRecDepth 100000 in
set_option maxHeartbeats 3200000 in
theorem dtrunc (a b : Int) (w : World) (ha : W128 a) (hb : W128 b) (h0 : b ≠ 0) (ho : OverC (mag a) (mag b)) :
    Calls Try.prog 135 #[.agg #[.int .i64 (hi a), .int .u64 (lo a)], .agg #[.int .i64 (hi b), .int .u64 (lo b)]] w (RetQ w (a.tdiv b) (a.tmod b)) := by
  have H1 := Lib.hid dparts
  have H2 := Lib.hid ho
  have H3 := Lib.hid dsigned
  obtain ⟨u1, u2⟩ := div_U ha hb h0
  have E1 := Lib.hid (tdiv_mag a b)
  have E2 := Lib.hid (tmod_mag a b)
  have hrW := tmod_W (a := a) hb h0
  have hz : ¬ (hi b = 0 ∧ lo b = 0) := by rintro ⟨g1, g2⟩; have := hi_lo b; omega
  clear ho
  by_cases hz1 : hi b = 0
  · have g1 : (hi b == 0) = true := by simpa using hz1
    have g2 : (lo b == 0) = false := by simpa using fun h => hz ⟨hz1, h⟩
    clear hz hz1
    go_enter Try.func135, Try.ntmps135
    go_wp2_with fail
    obtain ⟨W, hW⟩ : ∃ W, W = (((w.alloc (.cells #[.int .i64 (hi a), .int .u64 (lo a)] 38)).alloc (.cells #[.int .i64 (hi b), .int .u64 (lo b)] 38)).alloc (.cells #[.int .i64 0, .int .u64 0] 38)).alloc (.cells #[.int .i64 0, .int .u64 0] 38) := ⟨_, rfl⟩
    rw [← hW]
    have hB : Box2 W (w.heap.size + 1) (.int .i64 (hi b)) (.int .u64 (lo b)) 38 := by rw [hW]; exact ((Box2.new (by simp)).alloc _).alloc _
    have hR : Box2 W (w.heap.size + 1 + 1) (.int .i64 0) (.int .u64 0) 38 := by rw [hW]; exact (Box2.new (by simp)).alloc _
    have hS : Box2 W (w.heap.size + 1 + 1 + 1) (.int .i64 0) (.int .u64 0) 38 := by rw [hW]; exact Box2.new (by simp)
    have xw : Ext w W := by rw [hW]; exact (Ext.refl w).alloc.alloc.alloc.alloc
    clear hW
    refine (H1.out _ _ ha).mono ?_
    rintro e w1 ⟨rfl, x1⟩
    (first | replace xw := Ext.trans xw x1 | replace xw := Ext.trans (Ext.alloc xw) x1 | replace xw := Ext.trans (Ext.drew xw) x1 | replace xw := Ext.trans (Ext.alloc (Ext.drew xw)) x1); (first | replace hB := hB.ext x1 | replace hB := (hB.alloc _).ext x1 | replace hB := hB.drew.ext x1 | replace hB := (hB.drew.alloc _).ext x1); (first | replace hR := hR.ext x1 | replace hR := (hR.alloc _).ext x1 | replace hR := hR.drew.ext x1 | replace hR := (hR.drew.alloc _).ext x1); (first | replace hS := hS.ext x1 | replace hS := (hS.alloc _).ext x1 | replace hS := hS.drew.ext x1 | replace hS := (hS.drew.alloc _).ext x1)
    have hX : Box2 (w1.alloc (.cells #[.int .u64 (hi (mag a)), .int .u64 (lo (mag a))] 213)) w1.heap.size (.int .u64 (hi (mag a))) (.int .u64 (lo (mag a))) 213 := Box2.new rfl
    replace hB := hB.alloc (.cells #[.int .u64 (hi (mag a)), .int .u64 (lo (mag a))] 213)
    replace hR := hR.alloc (.cells #[.int .u64 (hi (mag a)), .int .u64 (lo (mag a))] 213)
    replace hS := hS.alloc (.cells #[.int .u64 (hi (mag a)), .int .u64 (lo (mag a))] 213)
    have hB_0 := hB.c0; have hB_1 := hB.c1
    go_wp2_with fail
    clear hB_0 hB_1
    refine (H1.out _ _ hb).mono ?_
    rintro e w2 ⟨rfl, x2⟩
    clear hB
    (first | replace xw := Ext.trans xw x2 | replace xw := Ext.trans (Ext.alloc xw) x2 | replace xw := Ext.trans (Ext.drew xw) x2 | replace xw := Ext.trans (Ext.alloc (Ext.drew xw)) x2); (first | replace hX := hX.ext x2 | replace hX := (hX.alloc _).ext x2 | replace hX := hX.drew.ext x2 | replace hX := (hX.drew.alloc _).ext x2); (first | replace hR := hR.ext x2 | replace hR := (hR.alloc _).ext x2 | replace hR := hR.drew.ext x2 | replace hR := (hR.drew.alloc _).ext x2); (first | replace hS := hS.ext x2 | replace hS := (hS.alloc _).ext x2 | replace hS := hS.drew.ext x2 | replace hS := (hS.drew.alloc _).ext x2)
    have hY : Box2 (w2.alloc (.cells #[.int .u64 (hi (mag b)), .int .u64 (lo (mag b))] 213)) w2.heap.size (.int .u64 (hi (mag b))) (.int .u64 (lo (mag b))) 213 := Box2.new rfl
    replace hX := hX.alloc (.cells #[.int .u64 (hi (mag b)), .int .u64 (lo (mag b))] 213)
    replace hR := hR.alloc (.cells #[.int .u64 (hi (mag b)), .int .u64 (lo (mag b))] 213)
    replace hS := hS.alloc (.cells #[.int .u64 (hi (mag b)), .int .u64 (lo (mag b))] 213)
    have hX_0 := hX.c0; have hX_1 := hX.c1; have hY_0 := hY.c0; have hY_1 := hY.c1
    go_wp2_with fail
    clear hX_0 hX_1 hY_0 hY_1
    clear hX hY
    refine (H2.out _).mono ?_
    rintro e w3 ⟨rfl, x3⟩
    (first | replace xw := Ext.trans xw x3 | replace xw := Ext.trans (Ext.alloc xw) x3 | replace xw := Ext.trans (Ext.drew xw) x3 | replace xw := Ext.trans (Ext.alloc (Ext.drew xw)) x3); (first | replace hR := hR.ext x3 | replace hR := (hR.alloc _).ext x3 | replace hR := hR.drew.ext x3 | replace hR := (hR.drew.alloc _).ext x3); (first | replace hS := hS.ext x3 | replace hS := (hS.alloc _).ext x3 | replace hS := hS.drew.ext x3 | replace hS := (hS.drew.alloc _).ext x3)
    obtain ⟨V, hV⟩ : ∃ V, V = (w3.alloc (.cells #[.int .u64 (hi (mag a / mag b)), .int .u64 (lo (mag a / mag b))] 213)).alloc (.cells #[.int .u64 (hi (mag a % mag b)), .int .u64 (lo (mag a % mag b))] 213) := ⟨_, rfl⟩
    have hP : Box2 ((w3.alloc (.cells #[.int .u64 (hi (mag a / mag b)), .int .u64 (lo (mag a / mag b))] 213)).alloc (.cells #[.int .u64 (hi (mag a % mag b)), .int .u64 (lo (mag a % mag b))] 213)) w3.heap.size (.int .u64 (hi (mag a / mag b))) (.int .u64 (lo (mag a / mag b))) 213 := (Box2.new rfl).alloc _
    have hQ : Box2 ((w3.alloc (.cells #[.int .u64 (hi (mag a / mag b)), .int .u64 (lo (mag a / mag b))] 213)).alloc (.cells #[.int .u64 (hi (mag a % mag b)), .int .u64 (lo (mag a % mag b))] 213)) (w3.heap.size + 1) (.int .u64 (hi (mag a % mag b))) (.int .u64 (lo (mag a % mag b))) 213 := Box2.new (by simp)
    have hP_0 := hP.c0; have hP_1 := hP.c1
    go_wp2_with fail
    clear hP_0 hP_1
    clear hP
    replace hR := hR.named2 hV
    replace hS := hS.named2 hV
    rw [← hV] at hQ ⊢
    replace xw : Ext w V := by rw [hV]; exact Ext.alloc (Ext.alloc xw)
    clear hV x1 x2 x3
    refine (H3.out _ _ _ u1).mono ?_
    rw [E1.out]
    rintro e w4 ⟨rfl, x4⟩
    (first | replace xw := Ext.trans xw x4 | replace xw := Ext.trans (Ext.alloc xw) x4 | replace xw := Ext.trans (Ext.drew xw) x4 | replace xw := Ext.trans (Ext.alloc (Ext.drew xw)) x4); (first | replace hQ := hQ.ext x4 | replace hQ := (hQ.alloc _).ext x4 | replace hQ := hQ.drew.ext x4 | replace hQ := (hQ.drew.alloc _).ext x4); (first | replace hR := hR.ext x4 | replace hR := (hR.alloc _).ext x4 | replace hR := hR.drew.ext x4 | replace hR := (hR.drew.alloc _).ext x4); (first | replace hS := hS.ext x4 | replace hS := (hS.alloc _).ext x4 | replace hS := hS.drew.ext x4 | replace hS := (hS.drew.alloc _).ext x4)
    have y4 := hS.kind.lt
    by_cases hq : W128 (a.tdiv b)
    · rw [thi_yes hq, tlo_yes hq, ter_yes hq]
      have hN : Box2 (w4.alloc (.cells #[.int .i64 (hi (a.tdiv b)), .int .u64 (lo (a.tdiv b))] 38)) w4.heap.size (.int .i64 (hi (a.tdiv b))) (.int .u64 (lo (a.tdiv b))) 38 := Box2.new rfl
      replace hQ := hQ.alloc (.cells #[.int .i64 (hi (a.tdiv b)), .int .u64 (lo (a.tdiv b))] 38)
      replace hR := hR.alloc (.cells #[.int .i64 (hi (a.tdiv b)), .int .u64 (lo (a.tdiv b))] 38)
      replace hS := hS.alloc (.cells #[.int .i64 (hi (a.tdiv b)), .int .u64 (lo (a.tdiv b))] 38)
      have hQ_0 := hQ.c0; have hQ_1 := hQ.c1
      go_wp2_with fail
      clear hQ_0 hQ_1
      clear hQ
      refine (H3.out _ _ _ u2).mono ?_
      rw [E2.out]
      rintro e w5 ⟨rfl, x5⟩
      rw [thi_yes hrW, tlo_yes hrW, ter_yes hrW]
      (first | replace xw := Ext.trans xw x5 | replace xw := Ext.trans (Ext.alloc xw) x5 | replace xw := Ext.trans (Ext.drew xw) x5 | replace xw := Ext.trans (Ext.alloc (Ext.drew xw)) x5); (first | replace hN := hN.ext x5 | replace hN := (hN.alloc _).ext x5 | replace hN := hN.drew.ext x5 | replace hN := (hN.drew.alloc _).ext x5); (first | replace hR := hR.ext x5 | replace hR := (hR.alloc _).ext x5 | replace hR := hR.drew.ext x5 | replace hR := (hR.drew.alloc _).ext x5); (first | replace hS := hS.ext x5 | replace hS := (hS.alloc _).ext x5 | replace hS := hS.drew.ext x5 | replace hS := (hS.drew.alloc _).ext x5)
      have y5 := hS.kind.lt
      have hM : Box2 (w5.alloc (.cells #[.int .i64 (hi (a.tmod b)), .int .u64 (lo (a.tmod b))] 38)) w5.heap.size (.int .i64 (hi (a.tmod b))) (.int .u64 (lo (a.tmod b))) 38 := Box2.new rfl
      replace hN := hN.alloc (.cells #[.int .i64 (hi (a.tmod b)), .int .u64 (lo (a.tmod b))] 38)
      replace hR := hR.alloc (.cells #[.int .i64 (hi (a.tmod b)), .int .u64 (lo (a.tmod b))] 38)
      replace hS := hS.alloc (.cells #[.int .i64 (hi (a.tmod b)), .int .u64 (lo (a.tmod b))] 38)
      go_wp2_with fail
      obtain ⟨U, hU⟩ : ∃ U, U = w5.alloc (.cells #[.int .i64 (hi (a.tmod b)), .int .u64 (lo (a.tmod b))] 38) := ⟨_, rfl⟩
      replace xw : Ext w U := by rw [hU]; exact Ext.alloc xw
      rw [← hU] at hM hN hR hS ⊢
      clear hU x4 x5
      have hM_0 := hM.c0; have hM_1 := hM.c1; have hN_0 := hN.c0; have hN_1 := hN.c1; have hR_0 := hR.c0; have hR_1 := hR.c1; have hS_0 := hS.c0; have hS_1 := hS.c1
      have hR_2 := hR.f0; have hR_3 := hR.f1; have hS_2 := hS.f0; have hS_3 := hS.f1
      have n1 : ¬ w4.heap.size = w.heap.size + 1 + 1 := by omega
      have n2 : ¬ w4.heap.size = w.heap.size + 1 + 1 + 1 := by omega
      have n3 : ¬ w5.heap.size = w.heap.size + 1 + 1 := by omega
      have n4 : ¬ w5.heap.size = w.heap.size + 1 + 1 + 1 := by omega
      have n5 : ¬ w.heap.size + 1 + 1 = w4.heap.size := by omega
      have n6 : ¬ w.heap.size + 1 + 1 + 1 = w4.heap.size := by omega
      have n7 : ¬ w.heap.size + 1 + 1 = w5.heap.size := by omega
      have n8 : ¬ w.heap.size + 1 + 1 + 1 = w5.heap.size := by omega
      go_region
      go_wp2_with fail
      refine bodyPost_ret (v := .tuple #[.agg #[.int .i64 (hi (a.tdiv b)), .int .u64 (lo (a.tdiv b))], .agg #[.int .i64 (hi (a.tmod b)), .int .u64 (lo (a.tmod b))], .int .i64 0]) (by simp [results, Try.results135, go_sem, hR_0, hR_1, hS_0, hS_1]) rfl (retQ_yes hq ?_)
      exact Ext.drew (Ext.set (Ext.set (Ext.set (Ext.set xw (by omega)) (by omega)) (by omega)) (by omega))
    · rw [thi_no hq, tlo_no hq, ter_no hq]
      replace hR := hR.alloc (.cells #[.int .i64 0, .int .u64 0] 38)
      replace hS := hS.alloc (.cells #[.int .i64 0, .int .u64 0] 38)
      have hR_0 := hR.c0; have hR_1 := hR.c1; have hS_0 := hS.c0; have hS_1 := hS.c1
      have hR_2 := hR.f0; have hR_3 := hR.f1; have hS_2 := hS.f0; have hS_3 := hS.f1
      go_wp2_with fail
      refine bodyPost_ret (v := .tuple #[.agg #[.int .i64 0, .int .u64 0], .agg #[.int .i64 0, .int .u64 0], .int .i64 2]) (by simp [results, Try.results135, go_sem, hR_0, hR_1, hS_0, hS_1]) rfl (retQ_no hq ?_)
      exact Ext.set (Ext.set (Ext.set (Ext.set (Ext.alloc xw) (by omega)) (by omega)) (by omega)) (by omega)
  · have g1 : (hi b == 0) = false := by simpa using hz1
    clear hz hz1
    go_enter Try.func135, Try.ntmps135
    go_wp2_with fail
    obtain ⟨W, hW⟩ : ∃ W, W = (((w.alloc (.cells #[.int .i64 (hi a), .int .u64 (lo a)] 38)).alloc (.cells #[.int .i64 (hi b), .int .u64 (lo b)] 38)).alloc (.cells #[.int .i64 0, .int .u64 0] 38)).alloc (.cells #[.int .i64 0, .int .u64 0] 38) := ⟨_, rfl⟩
    rw [← hW]
    have hB : Box2 W (w.heap.size + 1) (.int .i64 (hi b)) (.int .u64 (lo b)) 38 := by rw [hW]; exact ((Box2.new (by simp)).alloc _).alloc _
    have hR : Box2 W (w.heap.size + 1 + 1) (.int .i64 0) (.int .u64 0) 38 := by rw [hW]; exact (Box2.new (by simp)).alloc _
    have hS : Box2 W (w.heap.size + 1 + 1 + 1) (.int .i64 0) (.int .u64 0) 38 := by rw [hW]; exact Box2.new (by simp)
    have xw : Ext w W := by rw [hW]; exact (Ext.refl w).alloc.alloc.alloc.alloc
    clear hW
    refine (H1.out _ _ ha).mono ?_
    rintro e w1 ⟨rfl, x1⟩
    (first | replace xw := Ext.trans xw x1 | replace xw := Ext.trans (Ext.alloc xw) x1 | replace xw := Ext.trans (Ext.drew xw) x1 | replace xw := Ext.trans (Ext.alloc (Ext.drew xw)) x1); (first | replace hB := hB.ext x1 | replace hB := (hB.alloc _).ext x1 | replace hB := hB.drew.ext x1 | replace hB := (hB.drew.alloc _).ext x1); (first | replace hR := hR.ext x1 | replace hR := (hR.alloc _).ext x1 | replace hR := hR.drew.ext x1 | replace hR := (hR.drew.alloc _).ext x1); (first | replace hS := hS.ext x1 | replace hS := (hS.alloc _).ext x1 | replace hS := hS.drew.ext x1 | replace hS := (hS.drew.alloc _).ext x1)
    have hX : Box2 (w1.alloc (.cells #[.int .u64 (hi (mag a)), .int .u64 (lo (mag a))] 213)) w1.heap.size (.int .u64 (hi (mag a))) (.int .u64 (lo (mag a))) 213 := Box2.new rfl
    replace hB := hB.alloc (.cells #[.int .u64 (hi (mag a)), .int .u64 (lo (mag a))] 213)
    replace hR := hR.alloc (.cells #[.int .u64 (hi (mag a)), .int .u64 (lo (mag a))] 213)
    replace hS := hS.alloc (.cells #[.int .u64 (hi (mag a)), .int .u64 (lo (mag a))] 213)
    have hB_0 := hB.c0; have hB_1 := hB.c1
    go_wp2_with fail
    clear hB_0 hB_1
    refine (H1.out _ _ hb).mono ?_
    rintro e w2 ⟨rfl, x2⟩
    clear hB
    (first | replace xw := Ext.trans xw x2 | replace xw := Ext.trans (Ext.alloc xw) x2 | replace xw := Ext.trans (Ext.drew xw) x2 | replace xw := Ext.trans (Ext.alloc (Ext.drew xw)) x2); (first | replace hX := hX.ext x2 | replace hX := (hX.alloc _).ext x2 | replace hX := hX.drew.ext x2 | replace hX := (hX.drew.alloc _).ext x2); (first | replace hR := hR.ext x2 | replace hR := (hR.alloc _).ext x2 | replace hR := hR.drew.ext x2 | replace hR := (hR.drew.alloc _).ext x2); (first | replace hS := hS.ext x2 | replace hS := (hS.alloc _).ext x2 | replace hS := hS.drew.ext x2 | replace hS := (hS.drew.alloc _).ext x2)
    have hY : Box2 (w2.alloc (.cells #[.int .u64 (hi (mag b)), .int .u64 (lo (mag b))] 213)) w2.heap.size (.int .u64 (hi (mag b))) (.int .u64 (lo (mag b))) 213 := Box2.new rfl
    replace hX := hX.alloc (.cells #[.int .u64 (hi (mag b)), .int .u64 (lo (mag b))] 213)
    replace hR := hR.alloc (.cells #[.int .u64 (hi (mag b)), .int .u64 (lo (mag b))] 213)
    replace hS := hS.alloc (.cells #[.int .u64 (hi (mag b)), .int .u64 (lo (mag b))] 213)
    have hX_0 := hX.c0; have hX_1 := hX.c1; have hY_0 := hY.c0; have hY_1 := hY.c1
    go_wp2_with fail
    clear hX_0 hX_1 hY_0 hY_1
    clear hX hY
    refine (H2.out _).mono ?_
    rintro e w3 ⟨rfl, x3⟩
    (first | replace xw := Ext.trans xw x3 | replace xw := Ext.trans (Ext.alloc xw) x3 | replace xw := Ext.trans (Ext.drew xw) x3 | replace xw := Ext.trans (Ext.alloc (Ext.drew xw)) x3); (first | replace hR := hR.ext x3 | replace hR := (hR.alloc _).ext x3 | replace hR := hR.drew.ext x3 | replace hR := (hR.drew.alloc _).ext x3); (first | replace hS := hS.ext x3 | replace hS := (hS.alloc _).ext x3 | replace hS := hS.drew.ext x3 | replace hS := (hS.drew.alloc _).ext x3)
    obtain ⟨V, hV⟩ : ∃ V, V = (w3.alloc (.cells #[.int .u64 (hi (mag a / mag b)), .int .u64 (lo (mag a / mag b))] 213)).alloc (.cells #[.int .u64 (hi (mag a % mag b)), .int .u64 (lo (mag a % mag b))] 213) := ⟨_, rfl⟩
    have hP : Box2 ((w3.alloc (.cells #[.int .u64 (hi (mag a / mag b)), .int .u64 (lo (mag a / mag b))] 213)).alloc (.cells #[.int .u64 (hi (mag a % mag b)), .int .u64 (lo (mag a % mag b))] 213)) w3.heap.size (.int .u64 (hi (mag a / mag b))) (.int .u64 (lo (mag a / mag b))) 213 := (Box2.new rfl).alloc _
    have hQ : Box2 ((w3.alloc (.cells #[.int .u64 (hi (mag a / mag b)), .int .u64 (lo (mag a / mag b))] 213)).alloc (.cells #[.int .u64 (hi (mag a % mag b)), .int .u64 (lo (mag a % mag b))] 213)) (w3.heap.size + 1) (.int .u64 (hi (mag a % mag b))) (.int .u64 (lo (mag a % mag b))) 213 := Box2.new (by simp)
    have hP_0 := hP.c0; have hP_1 := hP.c1
    go_wp2_with fail
    clear hP_0 hP_1
    clear hP
    replace hR := hR.named2 hV
    replace hS := hS.named2 hV
    rw [← hV] at hQ ⊢
    replace xw : Ext w V := by rw [hV]; exact Ext.alloc (Ext.alloc xw)
    clear hV x1 x2 x3
    refine (H3.out _ _ _ u1).mono ?_
    rw [E1.out]
    rintro e w4 ⟨rfl, x4⟩
    (first | replace xw := Ext.trans xw x4 | replace xw := Ext.trans (Ext.alloc xw) x4 | replace xw := Ext.trans (Ext.drew xw) x4 | replace xw := Ext.trans (Ext.alloc (Ext.drew xw)) x4); (first | replace hQ := hQ.ext x4 | replace hQ := (hQ.alloc _).ext x4 | replace hQ := hQ.drew.ext x4 | replace hQ := (hQ.drew.alloc _).ext x4); (first | replace hR := hR.ext x4 | replace hR := (hR.alloc _).ext x4 | replace hR := hR.drew.ext x4 | replace hR := (hR.drew.alloc _).ext x4); (first | replace hS := hS.ext x4 | replace hS := (hS.alloc _).ext x4 | replace hS := hS.drew.ext x4 | replace hS := (hS.drew.alloc _).ext x4)
    have y4 := hS.kind.lt
    by_cases hq : W128 (a.tdiv b)
    · rw [thi_yes hq, tlo_yes hq, ter_yes hq]
      have hN : Box2 (w4.alloc (.cells #[.int .i64 (hi (a.tdiv b)), .int .u64 (lo (a.tdiv b))] 38)) w4.heap.size (.int .i64 (hi (a.tdiv b))) (.int .u64 (lo (a.tdiv b))) 38 := Box2.new rfl
      replace hQ := hQ.alloc (.cells #[.int .i64 (hi (a.tdiv b)), .int .u64 (lo (a.tdiv b))] 38)
      replace hR := hR.alloc (.cells #[.int .i64 (hi (a.tdiv b)), .int .u64 (lo (a.tdiv b))] 38)
      replace hS := hS.alloc (.cells #[.int .i64 (hi (a.tdiv b)), .int .u64 (lo (a.tdiv b))] 38)
      have hQ_0 := hQ.c0; have hQ_1 := hQ.c1
      go_wp2_with fail
      clear hQ_0 hQ_1
      clear hQ
      refine (H3.out _ _ _ u2).mono ?_
      rw [E2.out]
      rintro e w5 ⟨rfl, x5⟩
      rw [thi_yes hrW, tlo_yes hrW, ter_yes hrW]
      (first | replace xw := Ext.trans xw x5 | replace xw := Ext.trans (Ext.alloc xw) x5 | replace xw := Ext.trans (Ext.drew xw) x5 | replace xw := Ext.trans (Ext.alloc (Ext.drew xw)) x5); (first | replace hN := hN.ext x5 | replace hN := (hN.alloc _).ext x5 | replace hN := hN.drew.ext x5 | replace hN := (hN.drew.alloc _).ext x5); (first | replace hR := hR.ext x5 | replace hR := (hR.alloc _).ext x5 | replace hR := hR.drew.ext x5 | replace hR := (hR.drew.alloc _).ext x5); (first | replace hS := hS.ext x5 | replace hS := (hS.alloc _).ext x5 | replace hS := hS.drew.ext x5 | replace hS := (hS.drew.alloc _).ext x5)
      have y5 := hS.kind.lt
      have hM : Box2 (w5.alloc (.cells #[.int .i64 (hi (a.tmod b)), .int .u64 (lo (a.tmod b))] 38)) w5.heap.size (.int .i64 (hi (a.tmod b))) (.int .u64 (lo (a.tmod b))) 38 := Box2.new rfl
      replace hN := hN.alloc (.cells #[.int .i64 (hi (a.tmod b)), .int .u64 (lo (a.tmod b))] 38)
      replace hR := hR.alloc (.cells #[.int .i64 (hi (a.tmod b)), .int .u64 (lo (a.tmod b))] 38)
      replace hS := hS.alloc (.cells #[.int .i64 (hi (a.tmod b)), .int .u64 (lo (a.tmod b))] 38)
      go_wp2_with fail
      obtain ⟨U, hU⟩ : ∃ U, U = w5.alloc (.cells #[.int .i64 (hi (a.tmod b)), .int .u64 (lo (a.tmod b))] 38) := ⟨_, rfl⟩
      replace xw : Ext w U := by rw [hU]; exact Ext.alloc xw
      rw [← hU] at hM hN hR hS ⊢
      clear hU x4 x5
      have hM_0 := hM.c0; have hM_1 := hM.c1; have hN_0 := hN.c0; have hN_1 := hN.c1; have hR_0 := hR.c0; have hR_1 := hR.c1; have hS_0 := hS.c0; have hS_1 := hS.c1
      have hR_2 := hR.f0; have hR_3 := hR.f1; have hS_2 := hS.f0; have hS_3 := hS.f1
      have n1 : ¬ w4.heap.size = w.heap.size + 1 + 1 := by omega
      have n2 : ¬ w4.heap.size = w.heap.size + 1 + 1 + 1 := by omega
      have n3 : ¬ w5.heap.size = w.heap.size + 1 + 1 := by omega
      have n4 : ¬ w5.heap.size = w.heap.size + 1 + 1 + 1 := by omega
      have n5 : ¬ w.heap.size + 1 + 1 = w4.heap.size := by omega
      have n6 : ¬ w.heap.size + 1 + 1 + 1 = w4.heap.size := by omega
      have n7 : ¬ w.heap.size + 1 + 1 = w5.heap.size := by omega
      have n8 : ¬ w.heap.size + 1 + 1 + 1 = w5.heap.size := by omega
      go_region
      go_wp2_with fail
      refine bodyPost_ret (v := .tuple #[.agg #[.int .i64 (hi (a.tdiv b)), .int .u64 (lo (a.tdiv b))], .agg #[.int .i64 (hi (a.tmod b)), .int .u64 (lo (a.tmod b))], .int .i64 0]) (by simp [results, Try.results135, go_sem, hR_0, hR_1, hS_0, hS_1]) rfl (retQ_yes hq ?_)
      exact Ext.drew (Ext.set (Ext.set (Ext.set (Ext.set xw (by omega)) (by omega)) (by omega)) (by omega))
    · rw [thi_no hq, tlo_no hq, ter_no hq]
      replace hR := hR.alloc (.cells #[.int .i64 0, .int .u64 0] 38)
      replace hS := hS.alloc (.cells #[.int .i64 0, .int .u64 0] 38)
      have hR_0 := hR.c0; have hR_1 := hR.c1; have hS_0 := hS.c0; have hS_1 := hS.c1
      have hR_2 := hR.f0; have hR_3 := hR.f1; have hS_2 := hS.f0; have hS_3 := hS.f1
      go_wp2_with fail
      refine bodyPost_ret (v := .tuple #[.agg #[.int .i64 0, .int .u64 0], .agg #[.int .i64 0, .int .u64 0], .int .i64 2]) (by simp [results, Try.results135, go_sem, hR_0, hR_1, hS_0, hS_1]) rfl (retQ_no hq ?_)
      exact Ext.set (Ext.set (Ext.set (Ext.set (Ext.alloc xw) (by omega)) (by omega)) (by omega)) (by omega)
end Go.Proofs.Ytcndfpfjckkinaa
