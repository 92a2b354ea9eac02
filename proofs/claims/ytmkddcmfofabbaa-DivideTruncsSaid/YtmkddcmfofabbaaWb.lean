/-
  Wide numbers: Mul64, bare, parts, signed; wide.Sign, wide.Int, wide.Mul, wide.Times.
-/
import Derived.Test.YtmkddcmfofabbaaWa
import Derived.Shelf.Bits.Mul64
import Derived.BigQuiet
set_option linter.unusedSimpArgs false
namespace Go.Proofs.Ytmkddcmfofabbaa
open Go Go.RowKit

set_option maxRecDepth 100000 in
set_option maxHeartbeats 1600000 in
theorem mul64_nat (x y : Nat) (hx : x < 18446744073709551616) (hy : y < 18446744073709551616) (w : World) :
    Calls Try.prog 91 #[.int .u64 x, .int .u64 y] w fun e w' => e = .returned (.tuple #[.int .u64 ((x * y / 18446744073709551616 : Nat) : Int), .int .u64 ((x * y % 18446744073709551616 : Nat) : Int)]) ∧ w' = w := by
  obtain ⟨bd, bt, bw, hhi⟩ := Lib.mul64_hi x y hx hy
  have ba := Lib.half_mul_le (a := x / 4294967296) (b := y / 4294967296) (by omega) (by omega)
  have bb := Lib.half_mul_le (a := x / 4294967296) (b := y % 4294967296) (by omega) (by omega)
  have bc := Lib.half_mul_le (a := x % 4294967296) (b := y / 4294967296) (by omega) (by omega)
  have ba' : x / 4294967296 * (y / 4294967296) < 18446744073709551616 := by omega
  have bb' : x / 4294967296 * (y % 4294967296) < 18446744073709551616 := by omega
  have bc' : x % 4294967296 * (y / 4294967296) < 18446744073709551616 := by omega
  have bh1 : x / 4294967296 * (y / 4294967296) + (x / 4294967296 * (y % 4294967296) + x % 4294967296 * (y % 4294967296) / 4294967296) / 4294967296 < 18446744073709551616 := by omega
  have bh : x / 4294967296 * (y / 4294967296) + (x / 4294967296 * (y % 4294967296) + x % 4294967296 * (y % 4294967296) / 4294967296) / 4294967296 + ((x / 4294967296 * (y % 4294967296) + x % 4294967296 * (y % 4294967296) / 4294967296) % 4294967296 + x % 4294967296 * (y / 4294967296)) / 4294967296 < 18446744073709551616 := by omega
  go_enter Try.func91, Try.ntmps91
  go_wp2
  simp only [Mul64.maskN x hx, Mul64.maskN y hy, Mul64.divN, Mul64.mulN, Mul64.addN, Mul64.wrapN _ bd, Mul64.wrapN _ bb', Mul64.wrapN _ bt, Mul64.maskN _ bt, Mul64.wrapN _ bc', Mul64.wrapN _ bw, Mul64.wrapN _ ba', Mul64.wrapN _ bh1, Mul64.wrapN _ bh, Mul64.wrapM (x * y)]
  rw [hhi]
  go_ret2
  exact ⟨rfl, rfl⟩

theorem mul64 (x y : Int) (hx : 0 ≤ x) (hx1 : x < 18446744073709551616) (hy : 0 ≤ y) (hy1 : y < 18446744073709551616) (w : World) :
    Calls Try.prog 91 #[.int .u64 x, .int .u64 y] w fun e w' => e = .returned (.tuple #[.int .u64 (hi (x * y)), .int .u64 (lo (x * y))]) ∧ w' = w := by
  obtain ⟨X, rfl⟩ := Int.eq_ofNat_of_zero_le hx
  obtain ⟨Y, rfl⟩ := Int.eq_ofNat_of_zero_le hy
  have h := mul64_nat X Y (by omega) (by omega) w
  have e1 : ((X * Y / 18446744073709551616 : Nat) : Int) = hi ((X : Int) * Y) := by unfold hi; rw [← Int.natCast_mul]; omega
  have e2 : ((X * Y % 18446744073709551616 : Nat) : Int) = lo ((X : Int) * Y) := by unfold lo; rw [← Int.natCast_mul]; omega
  rw [e1, e2] at h
  exact h

/-- A number's size. -/
def mag (n : Int) : Int := if n < 0 then -n else n
theorem mag_neg {n : Int} (h : n < 0) : mag n = -n := if_pos h
theorem mag_pos {n : Int} (h : 0 ≤ n) : mag n = n := if_neg (by omega)
theorem mag_bd {n : Int} (h : -9223372036854775808 ≤ n) (h' : n ≤ 9223372036854775807) : 0 ≤ mag n ∧ mag n ≤ 9223372036854775808 := by unfold mag; split <;> omega
theorem mag_W {n : Int} (h : W128 n) : 0 ≤ mag n ∧ mag n ≤ 170141183460469231731687303715884105728 := by unfold W128 at h; unfold mag; split <;> omega

set_option maxRecDepth 100000 in
set_option maxHeartbeats 1600000 in
theorem bare_any (n : Int) (w : World) (h0 : -9223372036854775808 ≤ n) (h1 : n ≤ 9223372036854775807) :
    Calls Try.prog 92 #[.int .i64 n] w fun e w' => e = .returned (.int .u64 (mag n)) ∧ w' = w := by
  go_enter Try.func92, Try.ntmps92
  go_wp2
  · have e2 : IntKind.u64.wrap (-IntKind.u64.wrap n) = -n := by rw [u64_eq, u64_eq]; omega
    rw [mag_neg (n := n) (by assumption)]
    refine bodyPost_ret (v := .int .u64 (-n)) (by simp [results, Try.results92, go_sem, e2]) rfl ⟨rfl, rfl⟩
  · have e2 : IntKind.u64.wrap n = n := by rw [u64_eq]; omega
    rw [mag_pos (n := n) (by omega)]
    try simp only [e2]
    refine bodyPost_ret (v := .int .u64 n) (by simp [results, Try.results92, go_sem]) rfl ⟨rfl, rfl⟩

/-- With a sign. -/
def wsg (neg : Bool) (n : Int) : Int := if neg then -n else n
theorem wsg_t (n : Int) : wsg true n = -n := rfl
theorem wsg_f (n : Int) : wsg false n = n := rfl

set_option maxRecDepth 100000 in
set_option maxHeartbeats 1600000 in
theorem signed_any (neg : Bool) (h l : Int) (w : World) (h0 : 0 ≤ h) (h1 : h < 18446744073709551616) (l0 : 0 ≤ l) (l1 : l < 18446744073709551616) :
    Calls Try.prog 93 #[.bool neg, .int .u64 h, .int .u64 l] w (RetT w (wsg neg (h * 18446744073709551616 + l))) := by
  have r102 := run_sub64'
  have c0 : 0 ≤ bor 0 l 0 := by rw [bor_def]; omega
  have c1 : bor 0 l 0 ≤ 1 := by rw [bor_def]; omega
  cases neg
  · go_enter Try.func93, Try.ntmps93
    go_wp2
    all_goals
      clear r102
      first
      | (refine bodyPost_ret (v := .tuple #[.agg #[.int .i64 (wrap64 h), .int .u64 (l)], .int .i64 0]) ?_ rfl (retT_yes ?_ ?_ ?_ (by repeat (first | exact Ext.refl _ | refine Ext.alloc ?_ | refine Ext.drew ?_ | refine Ext.drewN ?_ | refine Ext.set ?_ (Ext.size ?_) | refine Ext.set ?_ (Ext.size1 ?_) | refine Ext.set ?_ (Ext.size2 ?_) | refine Ext.trans ?_ (by assumption)))); (simp [results, Try.results93, go_sem]); all_goals (simp only [wsg_t, wsg_f, W128, hi, lo, wrap64, bor_def, Bool.not_eq_eq_eq_not, Bool.not_false, Bool.not_true, decide_eq_true_eq, decide_eq_false_iff_not] at *; omega))
      | (refine bodyPost_ret (v := .tuple #[.agg #[.int .i64 (0), .int .u64 (l)], .int .i64 0]) ?_ rfl (retT_yes ?_ ?_ ?_ (by repeat (first | exact Ext.refl _ | refine Ext.alloc ?_ | refine Ext.drew ?_ | refine Ext.drewN ?_ | refine Ext.set ?_ (Ext.size ?_) | refine Ext.set ?_ (Ext.size1 ?_) | refine Ext.set ?_ (Ext.size2 ?_) | refine Ext.trans ?_ (by assumption)))); (simp [results, Try.results93, go_sem]); all_goals (simp only [wsg_t, wsg_f, W128, hi, lo, wrap64, bor_def, Bool.not_eq_eq_eq_not, Bool.not_false, Bool.not_true, decide_eq_true_eq, decide_eq_false_iff_not] at *; omega))
      | (refine bodyPost_ret (v := .tuple #[.agg #[.int .i64 (wrap64 h), .int .u64 (0)], .int .i64 0]) ?_ rfl (retT_yes ?_ ?_ ?_ (by repeat (first | exact Ext.refl _ | refine Ext.alloc ?_ | refine Ext.drew ?_ | refine Ext.drewN ?_ | refine Ext.set ?_ (Ext.size ?_) | refine Ext.set ?_ (Ext.size1 ?_) | refine Ext.set ?_ (Ext.size2 ?_) | refine Ext.trans ?_ (by assumption)))); (simp [results, Try.results93, go_sem]); all_goals (simp only [wsg_t, wsg_f, W128, hi, lo, wrap64, bor_def, Bool.not_eq_eq_eq_not, Bool.not_false, Bool.not_true, decide_eq_true_eq, decide_eq_false_iff_not] at *; omega))
      | (refine bodyPost_ret (v := .tuple #[.agg #[.int .i64 (0), .int .u64 (0)], .int .i64 0]) ?_ rfl (retT_yes ?_ ?_ ?_ (by repeat (first | exact Ext.refl _ | refine Ext.alloc ?_ | refine Ext.drew ?_ | refine Ext.drewN ?_ | refine Ext.set ?_ (Ext.size ?_) | refine Ext.set ?_ (Ext.size1 ?_) | refine Ext.set ?_ (Ext.size2 ?_) | refine Ext.trans ?_ (by assumption)))); (simp [results, Try.results93, go_sem]); all_goals (simp only [wsg_t, wsg_f, W128, hi, lo, wrap64, bor_def, Bool.not_eq_eq_eq_not, Bool.not_false, Bool.not_true, decide_eq_true_eq, decide_eq_false_iff_not] at *; omega))
      | (refine bodyPost_ret (v := .tuple #[.agg #[.int .i64 0, .int .u64 0], .int .i64 2]) ?_ rfl (retT_no ?_ (by repeat (first | exact Ext.refl _ | refine Ext.alloc ?_ | refine Ext.drew ?_ | refine Ext.drewN ?_ | refine Ext.set ?_ (Ext.size ?_) | refine Ext.set ?_ (Ext.size1 ?_) | refine Ext.set ?_ (Ext.size2 ?_) | refine Ext.trans ?_ (by assumption)))); (simp [results, Try.results93, go_sem]); all_goals (simp only [wsg_t, wsg_f, W128, hi, lo, wrap64, bor_def, Bool.not_eq_eq_eq_not, Bool.not_false, Bool.not_true, decide_eq_true_eq, decide_eq_false_iff_not] at *; omega))
  · go_enter Try.func93, Try.ntmps93
    go_wp2
    all_goals
      clear r102
      first
      | (refine bodyPost_ret (v := .tuple #[.agg #[.int .i64 (wrap64 ((-h - bor 0 l 0) % 18446744073709551616)), .int .u64 (-l % 18446744073709551616)], .int .i64 0]) ?_ rfl (retT_yes ?_ ?_ ?_ (by repeat (first | exact Ext.refl _ | refine Ext.alloc ?_ | refine Ext.drew ?_ | refine Ext.drewN ?_ | refine Ext.set ?_ (Ext.size ?_) | refine Ext.set ?_ (Ext.size1 ?_) | refine Ext.set ?_ (Ext.size2 ?_) | refine Ext.trans ?_ (by assumption)))); (simp [results, Try.results93, go_sem]); all_goals (simp only [wsg_t, wsg_f, W128, hi, lo, wrap64, bor_def, Bool.not_eq_eq_eq_not, Bool.not_false, Bool.not_true, decide_eq_true_eq, decide_eq_false_iff_not] at *; omega))
      | (refine bodyPost_ret (v := .tuple #[.agg #[.int .i64 (0), .int .u64 (-l % 18446744073709551616)], .int .i64 0]) ?_ rfl (retT_yes ?_ ?_ ?_ (by repeat (first | exact Ext.refl _ | refine Ext.alloc ?_ | refine Ext.drew ?_ | refine Ext.drewN ?_ | refine Ext.set ?_ (Ext.size ?_) | refine Ext.set ?_ (Ext.size1 ?_) | refine Ext.set ?_ (Ext.size2 ?_) | refine Ext.trans ?_ (by assumption)))); (simp [results, Try.results93, go_sem]); all_goals (simp only [wsg_t, wsg_f, W128, hi, lo, wrap64, bor_def, Bool.not_eq_eq_eq_not, Bool.not_false, Bool.not_true, decide_eq_true_eq, decide_eq_false_iff_not] at *; omega))
      | (refine bodyPost_ret (v := .tuple #[.agg #[.int .i64 (wrap64 ((-h - bor 0 l 0) % 18446744073709551616)), .int .u64 (0)], .int .i64 0]) ?_ rfl (retT_yes ?_ ?_ ?_ (by repeat (first | exact Ext.refl _ | refine Ext.alloc ?_ | refine Ext.drew ?_ | refine Ext.drewN ?_ | refine Ext.set ?_ (Ext.size ?_) | refine Ext.set ?_ (Ext.size1 ?_) | refine Ext.set ?_ (Ext.size2 ?_) | refine Ext.trans ?_ (by assumption)))); (simp [results, Try.results93, go_sem]); all_goals (simp only [wsg_t, wsg_f, W128, hi, lo, wrap64, bor_def, Bool.not_eq_eq_eq_not, Bool.not_false, Bool.not_true, decide_eq_true_eq, decide_eq_false_iff_not] at *; omega))
      | (refine bodyPost_ret (v := .tuple #[.agg #[.int .i64 (0), .int .u64 (0)], .int .i64 0]) ?_ rfl (retT_yes ?_ ?_ ?_ (by repeat (first | exact Ext.refl _ | refine Ext.alloc ?_ | refine Ext.drew ?_ | refine Ext.drewN ?_ | refine Ext.set ?_ (Ext.size ?_) | refine Ext.set ?_ (Ext.size1 ?_) | refine Ext.set ?_ (Ext.size2 ?_) | refine Ext.trans ?_ (by assumption)))); (simp [results, Try.results93, go_sem]); all_goals (simp only [wsg_t, wsg_f, W128, hi, lo, wrap64, bor_def, Bool.not_eq_eq_eq_not, Bool.not_false, Bool.not_true, decide_eq_true_eq, decide_eq_false_iff_not] at *; omega))
      | (refine bodyPost_ret (v := .tuple #[.agg #[.int .i64 0, .int .u64 0], .int .i64 2]) ?_ rfl (retT_no ?_ (by repeat (first | exact Ext.refl _ | refine Ext.alloc ?_ | refine Ext.drew ?_ | refine Ext.drewN ?_ | refine Ext.set ?_ (Ext.size ?_) | refine Ext.set ?_ (Ext.size1 ?_) | refine Ext.set ?_ (Ext.size2 ?_) | refine Ext.trans ?_ (by assumption)))); (simp [results, Try.results93, go_sem]); all_goals (simp only [wsg_t, wsg_f, W128, hi, lo, wrap64, bor_def, Bool.not_eq_eq_eq_not, Bool.not_false, Bool.not_true, decide_eq_true_eq, decide_eq_false_iff_not] at *; omega))

set_option maxRecDepth 100000 in
set_option maxHeartbeats 1600000 in
theorem parts_any (n : Int) (w : World) (hn : W128 n) :
    Calls Try.prog 89 #[.agg #[.int .i64 (hi n), .int .u64 (lo n)]] w (fun e w' => e = .returned (.tuple #[.int .u64 (hi (mag n)), .int .u64 (lo (mag n)), .bool (decide (n < 0))]) ∧ Ext w w') := by
  have r102 := run_sub64'
  obtain ⟨a0, a1⟩ := lo_bd n
  obtain ⟨a2, a3⟩ := hi_bd hn
  have c0 : 0 ≤ bor 0 (lo n) 0 := by rw [bor_def]; omega
  have c1 : bor 0 (lo n) 0 ≤ 1 := by rw [bor_def]; omega
  have u1 := u64_nonneg (hi n)
  have u2 := u64_lt (hi n)
  go_enter Try.func89, Try.ntmps89
  go_wp2
  · clear r102
    go_quiet (fail)
    go_wp2
    have e3 : n < 0 ↔ hi n < 0 := (hi_neg n).symm
    have e4 : decide (n < 0) = false := decide_eq_false (by omega)
    rw [mag_pos (n := n) (by omega), e4]
    refine bodyPost_ret (v := .tuple #[.int .u64 (hi n), .int .u64 (lo n), .bool false]) (by simp [results, Try.results89, go_sem]) rfl ⟨rfl, (by repeat (first | exact Ext.refl _ | refine Ext.alloc ?_ | refine Ext.drew ?_ | refine Ext.drewN ?_ | refine Ext.set ?_ (Ext.size ?_) | refine Ext.set ?_ (Ext.size1 ?_) | refine Ext.set ?_ (Ext.size2 ?_) | refine Ext.trans ?_ (by assumption)))⟩
  · clear r102
    have e3 : n < 0 ↔ hi n < 0 := (hi_neg n).symm
    have e4 : decide (n < 0) = true := decide_eq_true (by omega)
    rw [mag_neg (n := n) (by omega), e4]
    have e5 : (-IntKind.u64.wrap (hi n) - bor 0 (lo n) 0) % 18446744073709551616 = hi (-n) := by rw [u64_eq, bor_def]; unfold W128 at hn; unfold hi lo; omega
    have e6 : -lo n % 18446744073709551616 = lo (-n) := by unfold lo; omega
    refine bodyPost_ret (v := .tuple #[.int .u64 (hi (-n)), .int .u64 (lo (-n)), .bool true]) (by simp [results, Try.results89, go_sem, e5, e6]) rfl ⟨rfl, (by repeat (first | exact Ext.refl _ | refine Ext.alloc ?_ | refine Ext.drew ?_ | refine Ext.drewN ?_ | refine Ext.set ?_ (Ext.size ?_) | refine Ext.set ?_ (Ext.size1 ?_) | refine Ext.set ?_ (Ext.size2 ?_) | refine Ext.trans ?_ (by assumption)))⟩

set_option maxRecDepth 100000 in
set_option maxHeartbeats 1600000 in
theorem wsign (n : Int) (w : World) :
    Calls Try.prog 38 #[.agg #[.int .i64 (hi n), .int .u64 (lo n)]] w (fun e w' => e = .returned (.int .i64 (cmpI n 0)) ∧ Ext w w') := by
  have h0 := wcmp n 0
  rw [hi_zero, lo_zero] at h0
  have H0 := Lib.hid h0
  clear h0
  go_enter Try.func38, Try.ntmps38
  go_wp2_with fail
  refine (H0.out _).mono ?_
  rintro e w1 ⟨rfl, x1⟩
  go_wp2_with fail
  refine bodyPost_ret (v := .int .i64 (cmpI n 0)) (by simp [results, Try.results38, go_sem]) rfl ⟨rfl, ?_⟩
  exact Ext.trans (Ext.refl w).alloc x1

end Go.Proofs.Ytmkddcmfofabbaa
