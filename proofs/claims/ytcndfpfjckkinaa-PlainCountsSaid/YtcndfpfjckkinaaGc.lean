/-
  Wide numbers: how they lie in memory; wide.Of, Int, Cmp, Sign, Add, Sub, Neg.
-/
import Derived.Test.YtcndfpfjckkinaaGb
import Derived.Shelf.Bits.Mul64
import Derived.BigQuiet
import Derived.Deep.RegionHeld3
import Derived.Lib.Strings
import Derived.Lib.Slices
import Derived.Lib.Small
import Derived.Lib.Walk
import Derived.Lib.BitFns
import Derived.Laws.Bits64b
import Derived.Deep.DeepCutAuto
import Derived.Laws.BytesArg
namespace Go.Proofs.Ytcndfpfjckkinaa
open Go Go.RowKit

/-- The two halves of a wide number. -/
def hi (n : Int) : Int := n / 18446744073709551616
def lo (n : Int) : Int := n % 18446744073709551616
/-- Has room in 128 bits. -/
def W128 (n : Int) : Prop := -170141183460469231731687303715884105728 ≤ n ∧ n < 170141183460469231731687303715884105728
theorem lo_bd (n : Int) : 0 ≤ lo n ∧ lo n < 18446744073709551616 := by unfold lo; omega
theorem hi_bd {n : Int} (h : W128 n) : -9223372036854775808 ≤ hi n ∧ hi n ≤ 9223372036854775807 := by unfold hi; unfold W128 at h; omega
theorem hi_lo (n : Int) : n = hi n * 18446744073709551616 + lo n := by unfold hi lo; omega
theorem hi_neg (n : Int) : hi n < 0 ↔ n < 0 := by unfold hi; omega
theorem of_hi_lo (h l : Int) (h0 : 0 ≤ l) (h1 : l < 18446744073709551616) : hi (h * 18446744073709551616 + l) = h ∧ lo (h * 18446744073709551616 + l) = l := by unfold hi lo; omega
theorem wide_eq {a b : Int} : (hi a = hi b ∧ lo a = lo b) ↔ a = b := by unfold hi lo; omega

theorem run_add64' (x y c : Int) (hx : 0 ≤ x) (hy : 0 ≤ y) (hc0 : 0 ≤ c) (hc : c ≤ 1) (w : World) :
    (callFunc 193 #[.int .u64 x, .int .u64 y, .int .u64 c]).run Try.prog w =
      .ok (.value (.tuple #[.int .u64 ((x + y + c) % 18446744073709551616), .int .u64 ((x + y + c) / 18446744073709551616)])) w := by
  rw [run_callFunc_extern Try.func193 (by kernel_rfl) (by kernel_rfl) (by kernel_rfl) (e := add64Entry) (by kernel_rfl), run_add64 x y c hx hy hc0 hc]
  rfl

/-- What is borrowed. -/
def bor (x y b : Int) : Int := -((x - y - b) / 18446744073709551616)
theorem bor_def (x y b : Int) : bor x y b = -((x - y - b) / 18446744073709551616) := rfl
def sub64Entry' : Array Value → Sem Value := fun args => do
  let (x, y, b) ← Extern.MathBitsCarry.three "Sub64" args
  pure (Extern.MathBitsCarry.pair ((x + Extern.MathBitsCarry.m64 - y - b) % Extern.MathBitsCarry.m64) (if x < y + b then 1 else 0))
theorem run_sub64' (x y b : Int) (hx : 0 ≤ x) (hx1 : x < 18446744073709551616) (hy : 0 ≤ y) (hy1 : y < 18446744073709551616) (hb0 : 0 ≤ b) (hb : b ≤ 1) (w : World) :
    (callFunc 194 #[.int .u64 x, .int .u64 y, .int .u64 b]).run Try.prog w =
      .ok (.value (.tuple #[.int .u64 ((x - y - b) % 18446744073709551616), .int .u64 (bor x y b)])) w := by
  rw [run_callFunc_extern Try.func194 (by kernel_rfl) (by kernel_rfl) (by kernel_rfl) (e := sub64Entry') (by kernel_rfl)]
  obtain ⟨X, rfl⟩ := Int.eq_ofNat_of_zero_le hx
  obtain ⟨Y, rfl⟩ := Int.eq_ofNat_of_zero_le hy
  have key : ∀ k : Nat, k ≤ 1 → (sub64Entry' #[.int .u64 (X : Int), .int .u64 (Y : Int), .int .u64 (k : Int)]).run Try.prog w =
      .ok (Extern.MathBitsCarry.pair ((X + Extern.MathBitsCarry.m64 - Y - k) % Extern.MathBitsCarry.m64) (if X < Y + k then 1 else 0)) w := by
    intro k hk
    have : k = 0 ∨ k = 1 := by omega
    rcases this with rfl | rfl <;> rfl
  obtain ⟨c, rfl⟩ := Int.eq_ofNat_of_zero_le hb0
  rw [key c (by omega)]
  simp only [Extern.MathBitsCarry.pair, Extern.MathBitsCarry.m64, Result.andThen]
  have e1 : ((((X + 2 ^ 64 - Y - c) % 2 ^ 64 : Nat)) : Int) = ((X : Int) - Y - c) % 18446744073709551616 := by omega
  have e2 : (((if X < Y + c then 1 else 0 : Nat)) : Int) = bor (X : Int) Y c := by rw [bor_def]; split <;> omega
  show Result.ok (Next.value (.tuple #[.int .u64 (((X + 2 ^ 64 - Y - c) % 2 ^ 64 : Nat) : Int), .int .u64 ((if X < Y + c then 1 else 0 : Nat) : Int)])) w = _
  rw [e1, e2]

theorem u64_nonneg (x : Int) : 0 ≤ IntKind.u64.wrap x := by rw [IntKind.wrap_u64]; omega
theorem u64_lt (x : Int) : IntKind.u64.wrap x < 18446744073709551616 := by rw [IntKind.wrap_u64]; omega
theorem u64_eq (x : Int) : IntKind.u64.wrap x = x % 18446744073709551616 := IntKind.wrap_u64 x
theorem ret_agg2 {a b c d : Int} (h : a = c) (h' : b = d) : Ending.returned (.agg #[.int .i64 a, .int .u64 b]) = .returned (.agg #[.int .i64 c, .int .u64 d]) := by rw [h, h']

theorem of_pure (n : Int) (w : World) (h0 : -9223372036854775808 ≤ n) (h1 : n ≤ 9223372036854775807) :
    Calls Try.prog 51 #[.int .i64 n] w fun e w' => e = .returned (.agg #[.int .i64 (hi n), .int .u64 (lo n)]) ∧ Ext w w' := by
  go_enter Try.func51, Try.ntmps51
  go_wp2
  have e1 : n / 9223372036854775808 = hi n := by unfold hi; omega
  have e2 : IntKind.u64.wrap n = lo n := u64_eq n
  rw [e1, e2]
  refine bodyPost_ret (v := .agg #[.int .i64 (hi n), .int .u64 (lo n)]) (by simp [results, Try.results51, go_sem]) rfl ⟨rfl, (Ext.refl w).alloc⟩

theorem hi_add (m n : Int) : hi (m + n) = hi m + hi n + (lo m + lo n) / 18446744073709551616 := by unfold hi lo; omega
theorem lo_add (m n : Int) : lo (m + n) = (lo m + lo n) % 18446744073709551616 := by unfold lo; omega
theorem hi_sub (m n : Int) : hi (m - n) = hi m - hi n + (lo m - lo n) / 18446744073709551616 := by unfold hi lo; omega
theorem lo_sub (m n : Int) : lo (m - n) = (lo m - lo n) % 18446744073709551616 := by unfold lo; omega
theorem W128_iff (n : Int) : W128 n ↔ -9223372036854775808 ≤ hi n ∧ hi n ≤ 9223372036854775807 := by unfold W128 hi; omega
instance (n : Int) : Decidable (W128 n) := by unfold W128; infer_instance
/-- A wide number, or none. -/
def thi (n : Int) : Int := if W128 n then hi n else 0
def tlo (n : Int) : Int := if W128 n then lo n else 0
def ter (n : Int) : Int := if W128 n then 0 else 2
theorem thi_yes {n : Int} (h : W128 n) : thi n = hi n := if_pos h
theorem tlo_yes {n : Int} (h : W128 n) : tlo n = lo n := if_pos h
theorem ter_yes {n : Int} (h : W128 n) : ter n = 0 := if_pos h
theorem thi_no {n : Int} (h : ¬ W128 n) : thi n = 0 := if_neg h
theorem tlo_no {n : Int} (h : ¬ W128 n) : tlo n = 0 := if_neg h
theorem ter_no {n : Int} (h : ¬ W128 n) : ter n = 2 := if_neg h
/-- A call that returns the wide number n and 0, or none and 2. -/
def RetT (w : World) (n : Int) (e : Ending) (w' : World) : Prop := e = .returned (.tuple #[.agg #[.int .i64 (thi n), .int .u64 (tlo n)], .int .i64 (ter n)]) ∧ Ext w w'
theorem retT_yes {w w' : World} {n a b : Int} (h : W128 n) (ha : a = hi n) (hb : b = lo n) (hx : Ext w w') : RetT w n (.returned (.tuple #[.agg #[.int .i64 a, .int .u64 b], .int .i64 0])) w' :=
  ⟨by rw [thi_yes h, tlo_yes h, ter_yes h, ha, hb], hx⟩
theorem retT_no {w w' : World} {n : Int} (h : ¬ W128 n) (hx : Ext w w') : RetT w n (.returned (.tuple #[.agg #[.int .i64 0, .int .u64 0], .int .i64 2])) w' :=
  ⟨by rw [thi_no h, tlo_no h, ter_no h], hx⟩

/-- The upper half of a sum as the code comes to it. -/
def hsum (a b c : Int) : Int := wrap64 (a + b + c)
theorem hsum_eq (a b c : Int) : wrap64 ((IntKind.u64.wrap a + IntKind.u64.wrap b + c) % 18446744073709551616) = hsum a b c := by unfold hsum wrap64; rw [u64_eq, u64_eq]; omega
theorem hsum_def (a b c : Int) : hsum a b c = (a + b + c + 9223372036854775808) % 18446744073709551616 - 9223372036854775808 := by unfold hsum wrap64; rfl

set_option maxRecDepth 100000 in
set_option maxHeartbeats 1600000 in
theorem wadd (m n : Int) (w : World) (hm : W128 m) (hn : W128 n) :
    Calls Try.prog 129 #[.agg #[.int .i64 (hi m), .int .u64 (lo m)], .agg #[.int .i64 (hi n), .int .u64 (lo n)]] w (RetT w (m + n)) := by
  have r98 := run_add64'
  obtain ⟨a0, a1⟩ := lo_bd m
  obtain ⟨b0, b1⟩ := lo_bd n
  obtain ⟨a2, a3⟩ := hi_bd hm
  obtain ⟨b2, b3⟩ := hi_bd hn
  have u1 := u64_nonneg (hi m)
  have u2 := u64_nonneg (hi n)
  have c0 : 0 ≤ (lo m + lo n) / 18446744073709551616 := by omega
  have c1 : (lo m + lo n) / 18446744073709551616 ≤ 1 := by omega
  go_enter Try.func129, Try.ntmps129
  go_wp2
  all_goals
    have hi1 := hi_add m n
    have lo1 := lo_add m n
    have W1 := W128_iff (m + n)
    have hd := hsum_def (hi m) (hi n) ((lo m + lo n) / 18446744073709551616)
    simp only [hsum_eq] at *
    first
    | (refine bodyPost_ret (v := .tuple #[.agg #[.int .i64 (hsum (hi m) (hi n) ((lo m + lo n) / 18446744073709551616)), .int .u64 ((lo m + lo n) % 18446744073709551616)], .int .i64 0]) (by simp [results, Try.results129, go_sem]) rfl
        (retT_yes (W1.2 (by grind)) (by grind) lo1.symm (by repeat (first | exact Ext.refl _ | refine Ext.alloc ?_ | refine Ext.drew ?_ | refine Ext.drewN ?_ | refine Ext.set ?_ (Ext.size ?_) | refine Ext.set ?_ (Ext.size1 ?_) | refine Ext.set ?_ (Ext.size2 ?_) | refine Ext.trans ?_ (by assumption)))))
    | (refine bodyPost_ret (v := .tuple #[.agg #[.int .i64 0, .int .u64 0], .int .i64 2]) (by simp [results, Try.results129, go_sem]) rfl
        (retT_no (fun h => by have := W1.1 h; grind) (by repeat (first | exact Ext.refl _ | refine Ext.alloc ?_ | refine Ext.drew ?_ | refine Ext.drewN ?_ | refine Ext.set ?_ (Ext.size ?_) | refine Ext.set ?_ (Ext.size1 ?_) | refine Ext.set ?_ (Ext.size2 ?_) | refine Ext.trans ?_ (by assumption)))))

/-- The upper half of a difference as the code comes to it. -/
def hdif (a b c : Int) : Int := wrap64 (a - b - c)
theorem hdif_eq (a b c : Int) : wrap64 ((IntKind.u64.wrap a - IntKind.u64.wrap b - c) % 18446744073709551616) = hdif a b c := by unfold hdif wrap64; rw [u64_eq, u64_eq]; omega
theorem hdif_def (a b c : Int) : hdif a b c = (a - b - c + 9223372036854775808) % 18446744073709551616 - 9223372036854775808 := by unfold hdif wrap64; rfl


set_option maxRecDepth 100000 in
set_option maxHeartbeats 1600000 in
theorem wsub (m n : Int) (w : World) (hm : W128 m) (hn : W128 n) :
    Calls Try.prog 130 #[.agg #[.int .i64 (hi m), .int .u64 (lo m)], .agg #[.int .i64 (hi n), .int .u64 (lo n)]] w (RetT w (m - n)) := by
  have r102 := run_sub64'
  obtain ⟨a0, a1⟩ := lo_bd m
  obtain ⟨b0, b1⟩ := lo_bd n
  obtain ⟨a2, a3⟩ := hi_bd hm
  obtain ⟨b2, b3⟩ := hi_bd hn
  have u1 := u64_nonneg (hi m)
  have u2 := u64_nonneg (hi n)
  have u3 := u64_lt (hi m)
  have u4 := u64_lt (hi n)
  have c0 : 0 ≤ bor (lo m) (lo n) 0 := by rw [bor_def]; omega
  have c1 : bor (lo m) (lo n) 0 ≤ 1 := by rw [bor_def]; omega
  go_enter Try.func130, Try.ntmps130
  go_wp2
  all_goals
    have hi1 := hi_sub m n
    have lo1 := lo_sub m n
    have W1 := W128_iff (m - n)
    have hd := hdif_def (hi m) (hi n) (bor (lo m) (lo n) 0)
    have hbo := bor_def (lo m) (lo n) 0
    rw [Int.sub_zero] at hbo
    simp only [hdif_eq] at *
    clear r102 u1 u2 u3 u4
    first
    | (refine bodyPost_ret (v := .tuple #[.agg #[.int .i64 (hdif (hi m) (hi n) (bor (lo m) (lo n) 0)), .int .u64 ((lo m - lo n) % 18446744073709551616)], .int .i64 0]) (by simp [results, Try.results130, go_sem]) rfl
        (retT_yes (W1.2 (by (first | omega | grind | (simp only [Bool.not_eq_eq_eq_not, Bool.not_false, Bool.not_true, beq_iff_eq, beq_eq_false_iff_ne, ne_eq, decide_eq_decide] at *; omega)))) (by (first | omega | grind | (simp only [Bool.not_eq_eq_eq_not, Bool.not_false, Bool.not_true, beq_iff_eq, beq_eq_false_iff_ne, ne_eq, decide_eq_decide] at *; omega))) lo1.symm (by repeat (first | exact Ext.refl _ | refine Ext.alloc ?_ | refine Ext.drew ?_ | refine Ext.drewN ?_ | refine Ext.set ?_ (Ext.size ?_) | refine Ext.set ?_ (Ext.size1 ?_) | refine Ext.set ?_ (Ext.size2 ?_) | refine Ext.trans ?_ (by assumption)))))
    | (refine bodyPost_ret (v := .tuple #[.agg #[.int .i64 0, .int .u64 0], .int .i64 2]) (by simp [results, Try.results130, go_sem]) rfl
        (retT_no (fun h => by have := W1.1 h; (first | omega | grind | (simp only [Bool.not_eq_eq_eq_not, Bool.not_false, Bool.not_true, beq_iff_eq, beq_eq_false_iff_ne, ne_eq, decide_eq_decide] at *; omega))) (by repeat (first | exact Ext.refl _ | refine Ext.alloc ?_ | refine Ext.drew ?_ | refine Ext.drewN ?_ | refine Ext.set ?_ (Ext.size ?_) | refine Ext.set ?_ (Ext.size1 ?_) | refine Ext.set ?_ (Ext.size2 ?_) | refine Ext.trans ?_ (by assumption)))))

theorem W128_zero : W128 0 := by unfold W128; omega
theorem hi_zero : hi 0 = 0 := rfl
theorem lo_zero : lo 0 = 0 := rfl

set_option maxRecDepth 100000 in
set_option maxHeartbeats 1600000 in
theorem wneg (n : Int) (w : World) (hn : W128 n) :
    Calls Try.prog 140 #[.agg #[.int .i64 (hi n), .int .u64 (lo n)]] w (RetT w (-n)) := by
  have h0 := wsub 0 n
  rw [hi_zero, lo_zero] at h0
  have H0 := Lib.hid h0
  clear h0
  go_enter Try.func140, Try.ntmps140
  go_wp2_with fail
  refine (H0.out _ W128_zero hn).mono ?_
  rintro e w1 ⟨rfl, x1⟩
  obtain ⟨b1, b2⟩ := newB x1
  have q0 := b2.c0
  have q1 := b2.c1
  have q2 := b2.f0
  have q3 := b2.f1
  rw [Int.zero_sub]
  go_wp2_with fail
  refine bodyPost_ret (v := .tuple #[.agg #[.int .i64 (thi (-n)), .int .u64 (tlo (-n))], .int .i64 (ter (-n))]) (by simp [results, Try.results140, go_sem, q0, q1]) rfl ⟨rfl, ?_⟩
  exact (Ext.set (Ext.set (Ext.trans (Ext.refl w).alloc.alloc x1) (by omega)) (by omega))

set_option maxRecDepth 100000 in
set_option maxHeartbeats 1600000 in
theorem wcmp (m n : Int) (w : World) :
    Calls Try.prog 47 #[.agg #[.int .i64 (hi m), .int .u64 (lo m)], .agg #[.int .i64 (hi n), .int .u64 (lo n)]] w (fun e w' => e = .returned (.int .i64 (cmpI m n)) ∧ Ext w w') := by
  go_enter Try.func47, Try.ntmps47
  go_wp2
  all_goals
    have a := hi_lo m
    have b := hi_lo n
    have := lo_bd m
    have := lo_bd n
    first
    | (refine bodyPost_ret (v := .int .i64 0) (by simp [results, Try.results47, go_sem]) rfl ⟨by rw [cmpI_eq (by (first | omega | grind | (simp only [Bool.not_eq_eq_eq_not, Bool.not_false, Bool.not_true, beq_iff_eq, beq_eq_false_iff_ne, ne_eq, decide_eq_decide] at *; omega)))], (by repeat (first | exact Ext.refl _ | refine Ext.alloc ?_ | refine Ext.drew ?_ | refine Ext.drewN ?_ | refine Ext.set ?_ (Ext.size ?_) | refine Ext.set ?_ (Ext.size1 ?_) | refine Ext.set ?_ (Ext.size2 ?_) | refine Ext.trans ?_ (by assumption)))⟩)
    | (refine bodyPost_ret (v := .int .i64 (-1)) (by simp [results, Try.results47, go_sem]) rfl ⟨by rw [cmpI_lt (by (first | omega | grind | (simp only [Bool.not_eq_eq_eq_not, Bool.not_false, Bool.not_true, beq_iff_eq, beq_eq_false_iff_ne, ne_eq, decide_eq_decide] at *; omega)))], (by repeat (first | exact Ext.refl _ | refine Ext.alloc ?_ | refine Ext.drew ?_ | refine Ext.drewN ?_ | refine Ext.set ?_ (Ext.size ?_) | refine Ext.set ?_ (Ext.size1 ?_) | refine Ext.set ?_ (Ext.size2 ?_) | refine Ext.trans ?_ (by assumption)))⟩)
    | (refine bodyPost_ret (v := .int .i64 1) (by simp [results, Try.results47, go_sem]) rfl ⟨by rw [cmpI_gt (by (first | omega | grind | (simp only [Bool.not_eq_eq_eq_not, Bool.not_false, Bool.not_true, beq_iff_eq, beq_eq_false_iff_ne, ne_eq, decide_eq_decide] at *; omega)))], (by repeat (first | exact Ext.refl _ | refine Ext.alloc ?_ | refine Ext.drew ?_ | refine Ext.drewN ?_ | refine Ext.set ?_ (Ext.size ?_) | refine Ext.set ?_ (Ext.size1 ?_) | refine Ext.set ?_ (Ext.size2 ?_) | refine Ext.trans ?_ (by assumption)))⟩)

end Go.Proofs.Ytcndfpfjckkinaa

/-
  Wide numbers: Mul64, bare, parts, signed; wide.Sign, wide.Int, wide.Mul, wide.Times.
-/
set_option linter.unusedSimpArgs false
namespace Go.Proofs.Ytcndfpfjckkinaa
open Go Go.RowKit

set_option maxRecDepth 100000 in
set_option maxHeartbeats 1600000 in
theorem mul64_nat (x y : Nat) (hx : x < 18446744073709551616) (hy : y < 18446744073709551616) (w : World) :
    Calls Try.prog 200 #[.int .u64 x, .int .u64 y] w fun e w' => e = .returned (.tuple #[.int .u64 ((x * y / 18446744073709551616 : Nat) : Int), .int .u64 ((x * y % 18446744073709551616 : Nat) : Int)]) ∧ w' = w := by
  obtain ⟨bd, bt, bw, hhi⟩ := Lib.mul64_hi x y hx hy
  have ba := Lib.half_mul_le (a := x / 4294967296) (b := y / 4294967296) (by omega) (by omega)
  have bb := Lib.half_mul_le (a := x / 4294967296) (b := y % 4294967296) (by omega) (by omega)
  have bc := Lib.half_mul_le (a := x % 4294967296) (b := y / 4294967296) (by omega) (by omega)
  have ba' : x / 4294967296 * (y / 4294967296) < 18446744073709551616 := by omega
  have bb' : x / 4294967296 * (y % 4294967296) < 18446744073709551616 := by omega
  have bc' : x % 4294967296 * (y / 4294967296) < 18446744073709551616 := by omega
  have bh1 : x / 4294967296 * (y / 4294967296) + (x / 4294967296 * (y % 4294967296) + x % 4294967296 * (y % 4294967296) / 4294967296) / 4294967296 < 18446744073709551616 := by omega
  have bh : x / 4294967296 * (y / 4294967296) + (x / 4294967296 * (y % 4294967296) + x % 4294967296 * (y % 4294967296) / 4294967296) / 4294967296 + ((x / 4294967296 * (y % 4294967296) + x % 4294967296 * (y % 4294967296) / 4294967296) % 4294967296 + x % 4294967296 * (y / 4294967296)) / 4294967296 < 18446744073709551616 := by omega
  go_enter Try.func200, Try.ntmps200
  go_wp2
  simp only [Mul64.maskN x hx, Mul64.maskN y hy, Mul64.divN, Mul64.mulN, Mul64.addN, Mul64.wrapN _ bd, Mul64.wrapN _ bb', Mul64.wrapN _ bt, Mul64.maskN _ bt, Mul64.wrapN _ bc', Mul64.wrapN _ bw, Mul64.wrapN _ ba', Mul64.wrapN _ bh1, Mul64.wrapN _ bh, Mul64.wrapM (x * y)]
  rw [hhi]
  go_ret2
  exact ⟨rfl, rfl⟩

theorem mul64 (x y : Int) (hx : 0 ≤ x) (hx1 : x < 18446744073709551616) (hy : 0 ≤ y) (hy1 : y < 18446744073709551616) (w : World) :
    Calls Try.prog 200 #[.int .u64 x, .int .u64 y] w fun e w' => e = .returned (.tuple #[.int .u64 (hi (x * y)), .int .u64 (lo (x * y))]) ∧ w' = w := by
  obtain ⟨X, rfl⟩ := Int.eq_ofNat_of_zero_le hx
  obtain ⟨Y, rfl⟩ := Int.eq_ofNat_of_zero_le hy
  have h := mul64_nat X Y (by omega) (by omega) w
  have e1 : ((X * Y / 18446744073709551616 : Nat) : Int) = hi ((X : Int) * Y) := by unfold hi; rw [← Int.natCast_mul]; omega
  have e2 : ((X * Y % 18446744073709551616 : Nat) : Int) = lo ((X : Int) * Y) := by unfold lo; rw [← Int.natCast_mul]; omega
  rw [e1, e2] at h
  exact h

/-- A number's size. -/
def mag (n : Int) : Int := if n < 0 then -n else n
theorem mag_neg {n : Int} (h : n < 0) : mag n = -n := if_pos h
theorem mag_pos {n : Int} (h : 0 ≤ n) : mag n = n := if_neg (by omega)
theorem mag_bd {n : Int} (h : -9223372036854775808 ≤ n) (h' : n ≤ 9223372036854775807) : 0 ≤ mag n ∧ mag n ≤ 9223372036854775808 := by unfold mag; split <;> omega
theorem mag_W {n : Int} (h : W128 n) : 0 ≤ mag n ∧ mag n ≤ 170141183460469231731687303715884105728 := by unfold W128 at h; unfold mag; split <;> omega

set_option maxRecDepth 100000 in
set_option maxHeartbeats 1600000 in
theorem bare_any (n : Int) (w : World) (h0 : -9223372036854775808 ≤ n) (h1 : n ≤ 9223372036854775807) :
    Calls Try.prog 201 #[.int .i64 n] w fun e w' => e = .returned (.int .u64 (mag n)) ∧ w' = w := by
  go_enter Try.func201, Try.ntmps201
  go_wp2
  · have e2 : IntKind.u64.wrap (-IntKind.u64.wrap n) = -n := by rw [u64_eq, u64_eq]; omega
    rw [mag_neg (n := n) (by assumption)]
    refine bodyPost_ret (v := .int .u64 (-n)) (by simp [results, Try.results201, go_sem, e2]) rfl ⟨rfl, rfl⟩
  · have e2 : IntKind.u64.wrap n = n := by rw [u64_eq]; omega
    rw [mag_pos (n := n) (by omega)]
    try simp only [e2]
    refine bodyPost_ret (v := .int .u64 n) (by simp [results, Try.results201, go_sem]) rfl ⟨rfl, rfl⟩

/-- With a sign. -/
def wsg (neg : Bool) (n : Int) : Int := if neg then -n else n
theorem wsg_t (n : Int) : wsg true n = -n := rfl
theorem wsg_f (n : Int) : wsg false n = n := rfl

set_option maxRecDepth 100000 in
set_option maxHeartbeats 1600000 in
theorem signed_any (neg : Bool) (h l : Int) (w : World) (h0 : 0 ≤ h) (h1 : h < 18446744073709551616) (l0 : 0 ≤ l) (l1 : l < 18446744073709551616) :
    Calls Try.prog 202 #[.bool neg, .int .u64 h, .int .u64 l] w (RetT w (wsg neg (h * 18446744073709551616 + l))) := by
  have r102 := run_sub64'
  have c0 : 0 ≤ bor 0 l 0 := by rw [bor_def]; omega
  have c1 : bor 0 l 0 ≤ 1 := by rw [bor_def]; omega
  cases neg
  · go_enter Try.func202, Try.ntmps202
    go_wp2
    all_goals
      clear r102
      first
      | (refine bodyPost_ret (v := .tuple #[.agg #[.int .i64 (wrap64 h), .int .u64 (l)], .int .i64 0]) ?_ rfl (retT_yes ?_ ?_ ?_ (by repeat (first | exact Ext.refl _ | refine Ext.alloc ?_ | refine Ext.drew ?_ | refine Ext.drewN ?_ | refine Ext.set ?_ (Ext.size ?_) | refine Ext.set ?_ (Ext.size1 ?_) | refine Ext.set ?_ (Ext.size2 ?_) | refine Ext.trans ?_ (by assumption)))); (simp [results, Try.results202, go_sem]); all_goals (simp only [wsg_t, wsg_f, W128, hi, lo, wrap64, bor_def, Bool.not_eq_eq_eq_not, Bool.not_false, Bool.not_true, decide_eq_true_eq, decide_eq_false_iff_not] at *; omega))
      | (refine bodyPost_ret (v := .tuple #[.agg #[.int .i64 (0), .int .u64 (l)], .int .i64 0]) ?_ rfl (retT_yes ?_ ?_ ?_ (by repeat (first | exact Ext.refl _ | refine Ext.alloc ?_ | refine Ext.drew ?_ | refine Ext.drewN ?_ | refine Ext.set ?_ (Ext.size ?_) | refine Ext.set ?_ (Ext.size1 ?_) | refine Ext.set ?_ (Ext.size2 ?_) | refine Ext.trans ?_ (by assumption)))); (simp [results, Try.results202, go_sem]); all_goals (simp only [wsg_t, wsg_f, W128, hi, lo, wrap64, bor_def, Bool.not_eq_eq_eq_not, Bool.not_false, Bool.not_true, decide_eq_true_eq, decide_eq_false_iff_not] at *; omega))
      | (refine bodyPost_ret (v := .tuple #[.agg #[.int .i64 (wrap64 h), .int .u64 (0)], .int .i64 0]) ?_ rfl (retT_yes ?_ ?_ ?_ (by repeat (first | exact Ext.refl _ | refine Ext.alloc ?_ | refine Ext.drew ?_ | refine Ext.drewN ?_ | refine Ext.set ?_ (Ext.size ?_) | refine Ext.set ?_ (Ext.size1 ?_) | refine Ext.set ?_ (Ext.size2 ?_) | refine Ext.trans ?_ (by assumption)))); (simp [results, Try.results202, go_sem]); all_goals (simp only [wsg_t, wsg_f, W128, hi, lo, wrap64, bor_def, Bool.not_eq_eq_eq_not, Bool.not_false, Bool.not_true, decide_eq_true_eq, decide_eq_false_iff_not] at *; omega))
      | (refine bodyPost_ret (v := .tuple #[.agg #[.int .i64 (0), .int .u64 (0)], .int .i64 0]) ?_ rfl (retT_yes ?_ ?_ ?_ (by repeat (first | exact Ext.refl _ | refine Ext.alloc ?_ | refine Ext.drew ?_ | refine Ext.drewN ?_ | refine Ext.set ?_ (Ext.size ?_) | refine Ext.set ?_ (Ext.size1 ?_) | refine Ext.set ?_ (Ext.size2 ?_) | refine Ext.trans ?_ (by assumption)))); (simp [results, Try.results202, go_sem]); all_goals (simp only [wsg_t, wsg_f, W128, hi, lo, wrap64, bor_def, Bool.not_eq_eq_eq_not, Bool.not_false, Bool.not_true, decide_eq_true_eq, decide_eq_false_iff_not] at *; omega))
      | (refine bodyPost_ret (v := .tuple #[.agg #[.int .i64 0, .int .u64 0], .int .i64 2]) ?_ rfl (retT_no ?_ (by repeat (first | exact Ext.refl _ | refine Ext.alloc ?_ | refine Ext.drew ?_ | refine Ext.drewN ?_ | refine Ext.set ?_ (Ext.size ?_) | refine Ext.set ?_ (Ext.size1 ?_) | refine Ext.set ?_ (Ext.size2 ?_) | refine Ext.trans ?_ (by assumption)))); (simp [results, Try.results202, go_sem]); all_goals (simp only [wsg_t, wsg_f, W128, hi, lo, wrap64, bor_def, Bool.not_eq_eq_eq_not, Bool.not_false, Bool.not_true, decide_eq_true_eq, decide_eq_false_iff_not] at *; omega))
  · go_enter Try.func202, Try.ntmps202
    go_wp2
    all_goals
      clear r102
      first
      | (refine bodyPost_ret (v := .tuple #[.agg #[.int .i64 (wrap64 ((-h - bor 0 l 0) % 18446744073709551616)), .int .u64 (-l % 18446744073709551616)], .int .i64 0]) ?_ rfl (retT_yes ?_ ?_ ?_ (by repeat (first | exact Ext.refl _ | refine Ext.alloc ?_ | refine Ext.drew ?_ | refine Ext.drewN ?_ | refine Ext.set ?_ (Ext.size ?_) | refine Ext.set ?_ (Ext.size1 ?_) | refine Ext.set ?_ (Ext.size2 ?_) | refine Ext.trans ?_ (by assumption)))); (simp [results, Try.results202, go_sem]); all_goals (simp only [wsg_t, wsg_f, W128, hi, lo, wrap64, bor_def, Bool.not_eq_eq_eq_not, Bool.not_false, Bool.not_true, decide_eq_true_eq, decide_eq_false_iff_not] at *; omega))
      | (refine bodyPost_ret (v := .tuple #[.agg #[.int .i64 (0), .int .u64 (-l % 18446744073709551616)], .int .i64 0]) ?_ rfl (retT_yes ?_ ?_ ?_ (by repeat (first | exact Ext.refl _ | refine Ext.alloc ?_ | refine Ext.drew ?_ | refine Ext.drewN ?_ | refine Ext.set ?_ (Ext.size ?_) | refine Ext.set ?_ (Ext.size1 ?_) | refine Ext.set ?_ (Ext.size2 ?_) | refine Ext.trans ?_ (by assumption)))); (simp [results, Try.results202, go_sem]); all_goals (simp only [wsg_t, wsg_f, W128, hi, lo, wrap64, bor_def, Bool.not_eq_eq_eq_not, Bool.not_false, Bool.not_true, decide_eq_true_eq, decide_eq_false_iff_not] at *; omega))
      | (refine bodyPost_ret (v := .tuple #[.agg #[.int .i64 (wrap64 ((-h - bor 0 l 0) % 18446744073709551616)), .int .u64 (0)], .int .i64 0]) ?_ rfl (retT_yes ?_ ?_ ?_ (by repeat (first | exact Ext.refl _ | refine Ext.alloc ?_ | refine Ext.drew ?_ | refine Ext.drewN ?_ | refine Ext.set ?_ (Ext.size ?_) | refine Ext.set ?_ (Ext.size1 ?_) | refine Ext.set ?_ (Ext.size2 ?_) | refine Ext.trans ?_ (by assumption)))); (simp [results, Try.results202, go_sem]); all_goals (simp only [wsg_t, wsg_f, W128, hi, lo, wrap64, bor_def, Bool.not_eq_eq_eq_not, Bool.not_false, Bool.not_true, decide_eq_true_eq, decide_eq_false_iff_not] at *; omega))
      | (refine bodyPost_ret (v := .tuple #[.agg #[.int .i64 (0), .int .u64 (0)], .int .i64 0]) ?_ rfl (retT_yes ?_ ?_ ?_ (by repeat (first | exact Ext.refl _ | refine Ext.alloc ?_ | refine Ext.drew ?_ | refine Ext.drewN ?_ | refine Ext.set ?_ (Ext.size ?_) | refine Ext.set ?_ (Ext.size1 ?_) | refine Ext.set ?_ (Ext.size2 ?_) | refine Ext.trans ?_ (by assumption)))); (simp [results, Try.results202, go_sem]); all_goals (simp only [wsg_t, wsg_f, W128, hi, lo, wrap64, bor_def, Bool.not_eq_eq_eq_not, Bool.not_false, Bool.not_true, decide_eq_true_eq, decide_eq_false_iff_not] at *; omega))
      | (refine bodyPost_ret (v := .tuple #[.agg #[.int .i64 0, .int .u64 0], .int .i64 2]) ?_ rfl (retT_no ?_ (by repeat (first | exact Ext.refl _ | refine Ext.alloc ?_ | refine Ext.drew ?_ | refine Ext.drewN ?_ | refine Ext.set ?_ (Ext.size ?_) | refine Ext.set ?_ (Ext.size1 ?_) | refine Ext.set ?_ (Ext.size2 ?_) | refine Ext.trans ?_ (by assumption)))); (simp [results, Try.results202, go_sem]); all_goals (simp only [wsg_t, wsg_f, W128, hi, lo, wrap64, bor_def, Bool.not_eq_eq_eq_not, Bool.not_false, Bool.not_true, decide_eq_true_eq, decide_eq_false_iff_not] at *; omega))

set_option maxRecDepth 100000 in
set_option maxHeartbeats 1600000 in
theorem parts_any (n : Int) (w : World) (hn : W128 n) :
    Calls Try.prog 210 #[.agg #[.int .i64 (hi n), .int .u64 (lo n)]] w (fun e w' => e = .returned (.tuple #[.int .u64 (hi (mag n)), .int .u64 (lo (mag n)), .bool (decide (n < 0))]) ∧ Ext w w') := by
  have r102 := run_sub64'
  obtain ⟨a0, a1⟩ := lo_bd n
  obtain ⟨a2, a3⟩ := hi_bd hn
  have c0 : 0 ≤ bor 0 (lo n) 0 := by rw [bor_def]; omega
  have c1 : bor 0 (lo n) 0 ≤ 1 := by rw [bor_def]; omega
  have u1 := u64_nonneg (hi n)
  have u2 := u64_lt (hi n)
  go_enter Try.func210, Try.ntmps210
  go_wp2
  · clear r102
    go_quiet (fail)
    go_wp2
    have e3 : n < 0 ↔ hi n < 0 := (hi_neg n).symm
    have e4 : decide (n < 0) = false := decide_eq_false (by omega)
    rw [mag_pos (n := n) (by omega), e4]
    refine bodyPost_ret (v := .tuple #[.int .u64 (hi n), .int .u64 (lo n), .bool false]) (by simp [results, Try.results210, go_sem]) rfl ⟨rfl, (by repeat (first | exact Ext.refl _ | refine Ext.alloc ?_ | refine Ext.drew ?_ | refine Ext.drewN ?_ | refine Ext.set ?_ (Ext.size ?_) | refine Ext.set ?_ (Ext.size1 ?_) | refine Ext.set ?_ (Ext.size2 ?_) | refine Ext.trans ?_ (by assumption)))⟩
  · clear r102
    have e3 : n < 0 ↔ hi n < 0 := (hi_neg n).symm
    have e4 : decide (n < 0) = true := decide_eq_true (by omega)
    rw [mag_neg (n := n) (by omega), e4]
    have e5 : (-IntKind.u64.wrap (hi n) - bor 0 (lo n) 0) % 18446744073709551616 = hi (-n) := by rw [u64_eq, bor_def]; unfold W128 at hn; unfold hi lo; omega
    have e6 : -lo n % 18446744073709551616 = lo (-n) := by unfold lo; omega
    refine bodyPost_ret (v := .tuple #[.int .u64 (hi (-n)), .int .u64 (lo (-n)), .bool true]) (by simp [results, Try.results210, go_sem, e5, e6]) rfl ⟨rfl, (by repeat (first | exact Ext.refl _ | refine Ext.alloc ?_ | refine Ext.drew ?_ | refine Ext.drewN ?_ | refine Ext.set ?_ (Ext.size ?_) | refine Ext.set ?_ (Ext.size1 ?_) | refine Ext.set ?_ (Ext.size2 ?_) | refine Ext.trans ?_ (by assumption)))⟩

set_option maxRecDepth 100000 in
set_option maxHeartbeats 1600000 in
theorem wsign (n : Int) (w : World) :
    Calls Try.prog 48 #[.agg #[.int .i64 (hi n), .int .u64 (lo n)]] w (fun e w' => e = .returned (.int .i64 (cmpI n 0)) ∧ Ext w w') := by
  have h0 := wcmp n 0
  rw [hi_zero, lo_zero] at h0
  have H0 := Lib.hid h0
  clear h0
  go_enter Try.func48, Try.ntmps48
  go_wp2_with fail
  refine (H0.out _).mono ?_
  rintro e w1 ⟨rfl, x1⟩
  go_wp2_with fail
  refine bodyPost_ret (v := .int .i64 (cmpI n 0)) (by simp [results, Try.results48, go_sem]) rfl ⟨rfl, ?_⟩
  exact Ext.trans (Ext.refl w).alloc x1

end Go.Proofs.Ytcndfpfjckkinaa

/-
  Wide numbers: wide.Int, wide.Mul, wide.Times.
-/
namespace Go.Proofs.Ytcndfpfjckkinaa
open Go Go.RowKit

def I64 (n : Int) : Prop := -9223372036854775808 ≤ n ∧ n ≤ 9223372036854775807
instance (n : Int) : Decidable (I64 n) := by unfold I64; infer_instance
def t64 (n : Int) : Int := if I64 n then n else 0
theorem wrap64_bd (n : Int) : -9223372036854775808 ≤ wrap64 n ∧ wrap64 n ≤ 9223372036854775807 := by unfold wrap64; omega
theorem int_yes {n : Int} (h : hi (wrap64 (lo n)) = hi n) (h' : lo (wrap64 (lo n)) = lo n) : I64 n ∧ wrap64 (lo n) = n := by
  have e := wide_eq.1 ⟨h, h'⟩
  have := wrap64_bd (lo n)
  rw [e] at this
  exact ⟨this, e⟩
theorem int_no {n : Int} (h : ¬ (hi (wrap64 (lo n)) = hi n ∧ lo (wrap64 (lo n)) = lo n)) : ¬ I64 n := by
  intro hi'
  apply h
  have e : wrap64 (lo n) = n := by unfold I64 at hi'; unfold wrap64 lo; omega
  rw [e]; exact ⟨rfl, rfl⟩

set_option maxRecDepth 100000 in
set_option maxHeartbeats 1600000 in
theorem wint (n : Int) (w : World) :
    Calls Try.prog 105 #[.agg #[.int .i64 (hi n), .int .u64 (lo n)]] w (fun e w' => e = .returned (.tuple #[.int .i64 (t64 n), .bool (decide (I64 n))]) ∧ Ext w w') := by
  obtain ⟨l0, l1⟩ := lo_bd n
  obtain ⟨b0, b1⟩ := wrap64_bd (lo n)
  have hA : Box2 (w.alloc (.cells #[.int .i64 (hi n), .int .u64 (lo n)] 38)) w.heap.size (.int .i64 (hi n)) (.int .u64 (lo n)) 38 := Box2.new rfl
  have hl : lo (wrap64 (lo n)) = lo n := by unfold wrap64 lo; omega
  have g2 : (lo (wrap64 (lo n)) == lo n) = true := by simpa using hl
  by_cases h1 : hi (wrap64 (lo n)) = hi n
  · have g1 : (hi (wrap64 (lo n)) == hi n) = true := by simpa using h1
    obtain ⟨i1, i2⟩ := int_yes h1 hl
    have H1 := Lib.hid i2
    clear hl h1 i2
    go_enter Try.func105, Try.ntmps105
    go_wp2_with fail
    go_region_held3 (fun w' => w'.cell? ⟨w.heap.size, 0, none⟩ = some (.int .i64 (hi n)) ∧ w'.cell? ⟨w.heap.size, 1, none⟩ = some (.int .u64 (lo n)))
      (first
        | exact ⟨(hA.drew.ext x1).c0, (hA.drew.ext x1).c1⟩
        | exact ⟨hA.drew.c0, hA.drew.c1⟩)
      (first
        | (go_at_call 51; refine (of_pure _ _ b0 b1).mono ?_; rintro e w1 ⟨rfl, x1⟩))
    go_wp2
    rw [show t64 n = n from if_pos i1, decide_eq_true i1]
    refine bodyPost_ret (v := .tuple #[.int .i64 (wrap64 (lo n)), .bool true]) (by simp [results, Try.results105, go_sem]) rfl ⟨by rw [H1.out], Ext.trans (Ext.refl w).alloc.drew x1⟩
  · have g1 : (hi (wrap64 (lo n)) == hi n) = false := by simpa using h1
    have i1 := int_no (n := n) (fun h => h1 h.1)
    clear hl h1
    go_enter Try.func105, Try.ntmps105
    go_wp2_with fail
    go_region_held3 (fun w' => w'.cell? ⟨w.heap.size, 0, none⟩ = some (.int .i64 (hi n)) ∧ w'.cell? ⟨w.heap.size, 1, none⟩ = some (.int .u64 (lo n)))
      (first
        | exact ⟨(hA.drew.ext x1).c0, (hA.drew.ext x1).c1⟩
        | exact ⟨hA.drew.c0, hA.drew.c1⟩)
      (first
        | (go_at_call 51; refine (of_pure _ _ b0 b1).mono ?_; rintro e w1 ⟨rfl, x1⟩))
    go_wp2
    rw [show t64 n = 0 from if_neg i1, decide_eq_false i1]
    refine bodyPost_ret (v := .tuple #[.int .i64 0, .bool false]) (by simp [results, Try.results105, go_sem]) rfl ⟨rfl, Ext.trans (Ext.refl w).alloc.drew x1⟩

theorem bne_of (a b : Bool) : (!(a == b)) = xor a b := by cases a <;> cases b <;> rfl
theorem mag_mul (m n : Int) : wsg (!(decide (m < 0) == decide (n < 0))) (mag m * mag n) = m * n := by
  by_cases a : m < 0 <;> by_cases b : n < 0
  · simp [a, b, mag_neg, wsg_f]; grind
  · simp [a, b, mag_neg a, mag_pos (Int.not_lt.1 b), wsg_t]; grind
  · simp [a, b, mag_neg b, mag_pos (Int.not_lt.1 a), wsg_t]; grind
  · simp [a, b, mag_pos (Int.not_lt.1 a), mag_pos (Int.not_lt.1 b), wsg_f]
theorem mag_of_mul (m n : Int) : mag (m * n) = mag m * mag n := by
  have h1 := mag_mul m n
  have h2 : 0 ≤ mag m * mag n := Int.mul_nonneg (by unfold mag; split <;> omega) (by unfold mag; split <;> omega)
  rw [← h1]
  generalize mag m * mag n = p at *
  generalize (!(decide (m < 0) == decide (n < 0))) = b
  cases b
  · exact mag_pos h2
  · rw [wsg_t]; unfold mag; split <;> omega
theorem mul_room {m n : Int} (hm : I64 m) (hn : I64 n) : 0 ≤ mag m * mag n ∧ mag m * mag n ≤ 85070591730234615865843651857942052864 := by
  obtain ⟨p0, p1⟩ := mag_bd hm.1 hm.2
  obtain ⟨q0, q1⟩ := mag_bd hn.1 hn.2
  exact ⟨Int.mul_nonneg p0 q0, Int.le_trans (Int.mul_le_mul p1 q1 q0 (by omega)) (by decide)⟩
theorem mag_le (n : Int) : -mag n ≤ n ∧ n ≤ mag n := by unfold mag; split <;> omega
theorem mul_W {m n : Int} (hm : I64 m) (hn : I64 n) : W128 (m * n) := by
  have h := mul_room hm hn
  rw [← mag_of_mul] at h
  have := mag_le (m * n)
  unfold W128; omega

set_option maxRecDepth 100000 in
set_option maxHeartbeats 1600000 in
theorem wmul (m n : Int) (w : World) (hm : I64 m) (hn : I64 n) :
    Calls Try.prog 144 #[.int .i64 m, .int .i64 n] w (fun e w' => e = .returned (.agg #[.int .i64 (hi (m * n)), .int .u64 (lo (m * n))]) ∧ Ext w w') := by
  obtain ⟨P0, P1⟩ := mul_room hm hn
  have hW := mul_W hm hn
  have hS := Lib.hid (mag_mul m n)
  obtain ⟨m0, m1⟩ := hm
  obtain ⟨n0, n1⟩ := hn
  obtain ⟨p0, p1⟩ := mag_bd m0 m1
  obtain ⟨q0, q1⟩ := mag_bd n0 n1
  obtain ⟨l0, l1⟩ := lo_bd (mag m * mag n)
  have h0 : 0 ≤ hi (mag m * mag n) := by unfold hi; omega
  have h1 : hi (mag m * mag n) < 18446744073709551616 := by unfold hi; omega
  have H1 := Lib.hid bare_any
  have H2 := Lib.hid mul64
  have H3 := Lib.hid signed_any
  go_enter Try.func144, Try.ntmps144
  go_wp2_with fail
  refine (H1.out _ _ m0 m1).mono ?_
  rintro e w1 ⟨rfl, rfl⟩
  go_wp2_with fail
  refine (H1.out _ _ n0 n1).mono ?_
  rintro e w1 ⟨rfl, rfl⟩
  go_wp2_with fail
  refine (H2.out _ _ (by omega) (by omega) (by omega) (by omega) _).mono ?_
  rintro e w1 ⟨rfl, rfl⟩
  go_wp2_with fail
  refine (H3.out _ _ _ _ h0 h1 l0 l1).mono ?_
  rw [← hi_lo, hS.out]
  rintro e w1 ⟨rfl, x1⟩
  rw [thi_yes hW, tlo_yes hW, ter_yes hW]
  have b2 := (newA x1).alloc (.cells #[.int .i64 (hi (m * n)), .int .u64 (lo (m * n))] 38)
  have q0 := b2.c0
  have q1 := b2.c1
  have q2 := b2.f0
  have q3 := b2.f1
  have z1 := Ext.size x1
  simp only [World.size_alloc] at z1
  go_wp2_with fail
  refine bodyPost_ret (v := .agg #[.int .i64 (hi (m * n)), .int .u64 (lo (m * n))]) (by simp [results, Try.results144, go_sem, q0, q1]) rfl ⟨rfl, (by repeat (first | exact Ext.refl _ | refine Ext.alloc ?_ | refine Ext.drew ?_ | refine Ext.drewN ?_ | refine Ext.set ?_ (Ext.size ?_) | refine Ext.set ?_ (Ext.size1 ?_) | refine Ext.set ?_ (Ext.size2 ?_) | refine Ext.trans ?_ (by assumption)))⟩

set_option maxRecDepth 100000 in
set_option maxHeartbeats 1600000 in
theorem wtimes (v n : Int) (w : World) (hv : W128 v) (hn : I64 n) :
    Calls Try.prog 173 #[.agg #[.int .i64 (hi v), .int .u64 (lo v)], .int .i64 n] w (RetT w (v * n)) := by
  have hS := Lib.hid (mag_mul v n)
  have hM := Lib.hid (mag_of_mul v n)
  have hL := mag_le (v * n)
  obtain ⟨v0, v1⟩ := mag_W hv
  obtain ⟨n0, n1⟩ := hn
  obtain ⟨b0, b1⟩ := mag_bd n0 n1
  obtain ⟨al0, al1⟩ := lo_bd (mag v)
  have ah0 : 0 ≤ hi (mag v) := by unfold hi; omega
  have ah1 : hi (mag v) ≤ 9223372036854775808 := by unfold hi; omega
  have eP : mag v * mag n = hi (mag v) * mag n * 18446744073709551616 + lo (mag v) * mag n := by
    have := hi_lo (mag v)
    grind
  have X0 : 0 ≤ hi (mag v) * mag n := Int.mul_nonneg ah0 b0
  have X1 : hi (mag v) * mag n ≤ 85070591730234615865843651857942052864 := Int.le_trans (Int.mul_le_mul ah1 b1 b0 (by omega)) (by decide)
  have Y0 : 0 ≤ lo (mag v) * mag n := Int.mul_nonneg al0 b0
  have Y1 : lo (mag v) * mag n ≤ 170141183460469231731687303715884105728 := Int.le_trans (Int.mul_le_mul (Int.le_of_lt al1) b1 b0 (by omega)) (by decide)
  have eX := hi_lo (hi (mag v) * mag n)
  have eY := hi_lo (lo (mag v) * mag n)
  obtain ⟨xl0, xl1⟩ := lo_bd (hi (mag v) * mag n)
  obtain ⟨yl0, yl1⟩ := lo_bd (lo (mag v) * mag n)
  have xh0 : 0 ≤ hi (hi (mag v) * mag n) := by unfold hi; unfold hi at X0; omega
  have xh1 : hi (hi (mag v) * mag n) ≤ 4611686018427387904 := by unfold hi; unfold hi at X1; omega
  have yh0 : 0 ≤ hi (lo (mag v) * mag n) := by unfold hi; omega
  have yh1 : hi (lo (mag v) * mag n) ≤ 9223372036854775808 := by unfold hi; omega
  have H1 := Lib.hid bare_any
  have H2 := Lib.hid mul64
  have H3 := Lib.hid signed_any
  have H4 := Lib.hid parts_any
  have EP := Lib.hid eP
  have EX := Lib.hid eX
  have EY := Lib.hid eY
  clear eP eX eY
  have r98 := run_add64'
  have c0 : 0 ≤ (lo (hi (mag v) * mag n) + hi (lo (mag v) * mag n)) / 18446744073709551616 := by omega
  have c1 : (lo (hi (mag v) * mag n) + hi (lo (mag v) * mag n)) / 18446744073709551616 ≤ 1 := by omega
  go_enter Try.func173, Try.ntmps173
  go_wp2_with fail
  refine (H4.out _ _ hv).mono ?_
  rintro e w1 ⟨rfl, x1⟩
  go_wp2_with fail
  refine (H1.out _ _ n0 n1).mono ?_
  rintro e w2 ⟨rfl, rfl⟩
  go_wp2_with fail
  refine (H2.out _ _ (by omega) (by omega) (by omega) (by omega) _).mono ?_
  rintro e w3 ⟨rfl, rfl⟩
  go_wp2_with fail
  refine (H2.out _ _ (by omega) (by omega) (by omega) (by omega) _).mono ?_
  rintro e w4 ⟨rfl, rfl⟩
  have b2 := newB x1
  have q0 := b2.2.c0
  have q1 := b2.2.c1
  have q2 := b2.2.f0
  have q3 := b2.2.f1
  go_wp2_with fail
  · clear r98 H1 H2 H3 H4
    have e1 := EP.out
    have e2 := EX.out
    have e3 := EY.out
    have e4 := hM.out
    refine bodyPost_ret (v := .tuple #[.agg #[.int .i64 0, .int .u64 0], .int .i64 2]) (by simp [results, Try.results173, go_sem, q0, q1]) rfl (retT_no (fun h => ?_) (by repeat (first | exact Ext.refl _ | refine Ext.alloc ?_ | refine Ext.drew ?_ | refine Ext.drewN ?_ | refine Ext.set ?_ (Ext.size ?_) | refine Ext.set ?_ (Ext.size1 ?_) | refine Ext.set ?_ (Ext.size2 ?_) | refine Ext.trans ?_ (by assumption))))
    have := mag_W h
    omega
  · have e0 : (lo (hi (mag v) * mag n) + hi (lo (mag v) * mag n)) % 18446744073709551616 * 18446744073709551616 + lo (lo (mag v) * mag n) = mag v * mag n := by
      have e1 := EP.out
      have e2 := EX.out
      have e3 := EY.out
      omega
    refine (H3.out _ _ _ _ (by omega) (by omega) yl0 yl1).mono ?_
    rw [e0, hS.out]
    rintro e w5 ⟨rfl, x2⟩
    have b3 := b2.2.ext x2
    have q0 := b3.c0
    have q1 := b3.c1
    have q2 := b3.f0
    have q3 := b3.f1
    have z1 := Ext.size x1
    have z2 := Ext.size x2
    simp only [World.size_alloc] at z1
    go_wp2_with fail
    refine bodyPost_ret (v := .tuple #[.agg #[.int .i64 (thi (v * n)), .int .u64 (tlo (v * n))], .int .i64 (ter (v * n))]) (by simp [results, Try.results173, go_sem, q0, q1]) rfl ⟨rfl, (by repeat (first | exact Ext.refl _ | refine Ext.alloc ?_ | refine Ext.drew ?_ | refine Ext.drewN ?_ | refine Ext.set ?_ (Ext.size ?_) | refine Ext.set ?_ (Ext.size1 ?_) | refine Ext.set ?_ (Ext.size2 ?_) | refine Ext.trans ?_ (by assumption)))⟩

end Go.Proofs.Ytcndfpfjckkinaa

/-
  bits.Len64, bits.LeadingZeros64.
-/
namespace Go.Proofs.Ytcndfpfjckkinaa
open Go Go.RowKit

theorem tab_size : (Lib.len8tab.size : Int) = 256 := by
  have : Lib.len8tab.size = 256 := by decide +kernel
  omega
theorem wadd_k (k a b : Nat) (hk : k ≤ 56) (ha : a ≤ 8) (hb : b = k + a) : wrap64 ((k : Int) + wrap64 (a : Int)) = (b : Int) := by unfold wrap64; omega
theorem wwrap_k (a : Nat) (ha : a ≤ 8) : wrap64 (wrap64 (a : Int)) = (a : Int) := by unfold wrap64; omega
theorem wone_k (a : Nat) (ha : a ≤ 8) : wrap64 (a : Int) = (a : Int) := by unfold wrap64; omega
theorem tab_get (y : Int) (h : y.toNat < Lib.len8tab.size) : ((Lib.len8tab[y.toNat]'h).toNat : Int) = Lib.len8 y := by
  unfold Lib.len8
  rw [getElem?_pos Lib.len8tab y.toNat h]
  rfl

set_option maxRecDepth 100000 in
set_option maxHeartbeats 8000000 in
theorem len64 (x : Int) (w : World) (h0 : 0 ≤ x) (h1 : x ≤ 18446744073709551615) :
    Calls Try.prog 229 #[.int .u64 x] w fun e w' => e = .returned (.int .i64 (Lib.bitLen x.toNat)) ∧ w' = w := by
  have hs := tab_size
  go_enter Try.func229, Try.ntmps229
  go_wp2
  all_goals (go_ret; refine ⟨congrArg Ending.returned (congrArg (Value.int IntKind.i64) ?_), rfl⟩)
  all_goals first
    | (rw [tab_get (x / 4294967296 / 65536 / 256) _, Lib.len8_of (x / 4294967296 / 65536 / 256) (by omega) (by omega)]
       have e : (x / 4294967296 / 65536 / 256).toNat = x.toNat / 72057594037927936 := by omega
       have l := Lib.bitLen_le8' (x / 4294967296 / 65536 / 256) (by omega) (by omega)
       have s := Lib.bitLen_shift56 x.toNat (by omega) (by omega)
       rw [e] at l ⊢
       exact wadd_k 56 _ _ (by decide) l s)
    | (rw [tab_get (x / 4294967296 / 65536) _, Lib.len8_of (x / 4294967296 / 65536) (by omega) (by omega)]
       have e : (x / 4294967296 / 65536).toNat = x.toNat / 281474976710656 := by omega
       have l := Lib.bitLen_le8' (x / 4294967296 / 65536) (by omega) (by omega)
       have s := Lib.bitLen_shift48 x.toNat (by omega) (by omega)
       rw [e] at l ⊢
       exact wadd_k 48 _ _ (by decide) l s)
    | (rw [tab_get (x / 4294967296 / 256) _, Lib.len8_of (x / 4294967296 / 256) (by omega) (by omega)]
       have e : (x / 4294967296 / 256).toNat = x.toNat / 1099511627776 := by omega
       have l := Lib.bitLen_le8' (x / 4294967296 / 256) (by omega) (by omega)
       have s := Lib.bitLen_shift40 x.toNat (by omega) (by omega)
       rw [e] at l ⊢
       exact wadd_k 40 _ _ (by decide) l s)
    | (rw [tab_get (x / 4294967296) _, Lib.len8_of (x / 4294967296) (by omega) (by omega)]
       have e : (x / 4294967296).toNat = x.toNat / 4294967296 := by omega
       have l := Lib.bitLen_le8' (x / 4294967296) (by omega) (by omega)
       have s := Lib.bitLen_shift32 x.toNat (by omega) (by omega)
       rw [e] at l ⊢
       exact wadd_k 32 _ _ (by decide) l s)
    | (rw [tab_get (x / 65536 / 256) _, Lib.len8_of (x / 65536 / 256) (by omega) (by omega)]
       have e : (x / 65536 / 256).toNat = x.toNat / 16777216 := by omega
       have l := Lib.bitLen_le8' (x / 65536 / 256) (by omega) (by omega)
       have s := Lib.bitLen_shift24 x.toNat (by omega) (by omega)
       rw [e] at l ⊢
       exact wadd_k 24 _ _ (by decide) l s)
    | (rw [tab_get (x / 65536) _, Lib.len8_of (x / 65536) (by omega) (by omega)]
       have e : (x / 65536).toNat = x.toNat / 65536 := by omega
       have l := Lib.bitLen_le8' (x / 65536) (by omega) (by omega)
       have s := Lib.bitLen_shift16 x.toNat (by omega) (by omega)
       rw [e] at l ⊢
       exact wadd_k 16 _ _ (by decide) l s)
    | (rw [tab_get (x / 256) _, Lib.len8_of (x / 256) (by omega) (by omega)]
       have e : (x / 256).toNat = x.toNat / 256 := by omega
       have l := Lib.bitLen_le8' (x / 256) (by omega) (by omega)
       have s := Lib.bitLen_shift8 x.toNat (by omega) (by omega)
       rw [e] at l ⊢
       exact wadd_k 8 _ _ (by decide) l s)
    | (rw [tab_get x _, Lib.len8_of x (by omega) (by omega)]
       have l := Lib.bitLen_le8' x (by omega) (by omega)
       first | exact wwrap_k _ l | exact wadd_k 0 _ _ (by decide) l (by omega) | exact wone_k _ l)

theorem aux_bd : ∀ (f x : Nat), x < 2 ^ f → x < 2 ^ Lib.bitLenAux f x ∧ (x ≠ 0 → 2 ^ Lib.bitLenAux f x ≤ 2 * x) ∧ Lib.bitLenAux f x ≤ f
  | 0, x, h => by simp [Lib.bitLenAux] at *; omega
  | f + 1, x, h => by
    simp only [Lib.bitLenAux]
    by_cases h0 : x = 0
    · simp [h0]
    · rw [if_neg h0]
      obtain ⟨a, b, c⟩ := aux_bd f (x / 2) (by rw [Nat.pow_succ] at h; omega)
      rw [Nat.add_comm, Nat.pow_succ]
      refine ⟨by omega, fun _ => ?_, by omega⟩
      by_cases h1 : x / 2 = 0
      · rw [h1]; cases f <;> simp [Lib.bitLenAux] <;> omega
      · have := b h1; omega

/-- By so much a number is moved up till its first bit is the 64th. -/
theorem norm (y : Int) (h0 : 0 < y) (h1 : y < 18446744073709551616) : ∃ s : Nat, s ≤ 63 ∧ 64 - (Lib.bitLen y.toNat : Int) = s ∧ 9223372036854775808 ≤ y * 2 ^ s ∧ y * 2 ^ s < 18446744073709551616 := by
  obtain ⟨Y, rfl⟩ := Int.eq_ofNat_of_zero_le (by omega : 0 ≤ y)
  rw [Int.toNat_natCast]
  obtain ⟨a, b, c⟩ := aux_bd 64 Y (by omega)
  change Y < 2 ^ Lib.bitLen Y at a
  change _ → 2 ^ Lib.bitLen Y ≤ 2 * Y at b
  change Lib.bitLen Y ≤ 64 at c
  have b := b (by omega)
  generalize Lib.bitLen Y = k at *
  have hk : 1 ≤ k := by
    rcases k with _ | k
    · simp at a; omega
    · omega
  have e : 2 ^ k * 2 ^ (64 - k) = 18446744073709551616 := by rw [← Nat.pow_add, show k + (64 - k) = 64 by omega]
  have e1 : Y * 2 ^ (64 - k) < 2 ^ k * 2 ^ (64 - k) := Nat.mul_lt_mul_of_pos_right a (Nat.two_pow_pos _)
  have e2 : 2 ^ k * 2 ^ (64 - k) ≤ 2 * Y * 2 ^ (64 - k) := Nat.mul_le_mul_right _ b
  rw [Nat.mul_assoc] at e2
  refine ⟨64 - k, by omega, by omega, ?_, ?_⟩
  · have : ((Y * 2 ^ (64 - k) : Nat) : Int) = (Y : Int) * 2 ^ (64 - k) := by push_cast; rfl
    omega
  · have : ((Y * 2 ^ (64 - k) : Nat) : Int) = (Y : Int) * 2 ^ (64 - k) := by push_cast; rfl
    omega

set_option maxRecDepth 100000 in
set_option maxHeartbeats 1600000 in
theorem lz64 (y : Int) (w : World) (h0 : 0 < y) (h1 : y < 18446744073709551616) :
    Calls Try.prog 227 #[.int .u64 y] w fun e w' => ∃ s : Nat, e = .returned (.int .i64 s) ∧ s ≤ 63 ∧ 9223372036854775808 ≤ y * 2 ^ s ∧ y * 2 ^ s < 18446744073709551616 ∧ w' = w := by
  obtain ⟨s, s1, s2, s3, s4⟩ := norm y h0 h1
  have H := Lib.hid s2
  have H1 := Lib.hid len64
  have c1 : (Lib.bitLen y.toNat : Int) ≤ 64 := by omega
  have c2 : 0 ≤ (Lib.bitLen y.toNat : Int) := by omega
  clear s2
  go_enter Try.func227, Try.ntmps227
  go_wp2_with fail
  refine (H1.out _ _ (by omega) (by omega)).mono ?_
  rintro e w1 ⟨rfl, rfl⟩
  go_wp2_with fail
  refine bodyPost_ret (v := .int .i64 (64 - (Lib.bitLen y.toNat : Int))) (by simp [results, Try.results227, go_sem]) rfl ⟨s, by rw [H.out], s1, s3, s4, rfl⟩

end Go.Proofs.Ytcndfpfjckkinaa

/-
  The plain law of bits.Div64: one half digit of the quotient.
-/
namespace Go.Proofs.Ytcndfpfjckkinaa
open Go Go.RowKit

/-- One half digit is sought: q is at least it, and u = q y1 + r. -/
def Half (u d y1 y0 q r : Int) : Prop := 0 ≤ q ∧ 0 ≤ r ∧ u = q * y1 + r ∧ (u * 4294967296 + d) / (y1 * 4294967296 + y0) ≤ q ∧ q ≤ 4294967297
/-- What is asked of the numbers. -/
def Nrm (u d y1 y0 : Int) : Prop := 2147483648 ≤ y1 ∧ y1 < 4294967296 ∧ 0 ≤ y0 ∧ y0 < 4294967296 ∧ 0 ≤ u ∧ u < y1 * 4294967296 + y0 ∧ 0 ≤ d ∧ d < 4294967296

theorem le_q {u d y1 y0 q : Int} (h : Nrm u d y1 y0) : q ≤ (u * 4294967296 + d) / (y1 * 4294967296 + y0) ↔ q * (y1 * 4294967296 + y0) ≤ u * 4294967296 + d := by
  obtain ⟨a, b, c, d', _⟩ := h
  exact Int.le_ediv_iff_mul_le (by omega)
theorem q_lt {u d y1 y0 : Int} (h : Nrm u d y1 y0) : (u * 4294967296 + d) / (y1 * 4294967296 + y0) < 4294967296 := by
  obtain ⟨a, b, c, d', e, f, g, i⟩ := h
  apply Int.ediv_lt_of_lt_mul (by omega)
  omega
theorem q_nonneg {u d y1 y0 : Int} (h : Nrm u d y1 y0) : 0 ≤ (u * 4294967296 + d) / (y1 * 4294967296 + y0) := by
  obtain ⟨a, b, c, d', e, f, g, i⟩ := h
  exact Int.ediv_nonneg (by omega) (by omega)

theorem half_init {u d y1 y0 : Int} (h : Nrm u d y1 y0) : Half u d y1 y0 (u / y1) (u - u / y1 * y1) ∧ u - u / y1 * y1 < y1 := by
  have hq := q_nonneg h
  have hle := (le_q (q := (u * 4294967296 + d) / (y1 * 4294967296 + y0)) h).1 (Int.le_refl _)
  obtain ⟨a, b, c, d', e, f, g, i⟩ := h
  have h1 := Int.emod_add_mul_ediv u y1
  have h2 := Int.emod_nonneg u (by omega : y1 ≠ 0)
  have h3 := Int.emod_lt_of_pos u (by omega : 0 < y1)
  have h4 : 0 ≤ u / y1 := Int.ediv_nonneg e (by omega)
  have h5 : u / y1 * y1 = y1 * (u / y1) := Int.mul_comm _ _
  unfold Half
  generalize (u * 4294967296 + d) / (y1 * 4294967296 + y0) = Q at *
  refine ⟨⟨h4, by omega, by omega, ?_, ?_⟩, by omega⟩
  · apply (Int.le_ediv_iff_mul_le (by omega)).2
    have : 0 ≤ Q * y0 := Int.mul_nonneg hq c
    have e1 : Q * (y1 * 4294967296 + y0) = Q * y1 * 4294967296 + Q * y0 := by grind
    omega
  · have e1 : u / y1 * y1 < (4294967296 + 2) * y1 := by omega
    have := Int.lt_of_mul_lt_mul_right e1 (by omega)
    omega

theorem half_step {u d y1 y0 q r : Int} (h : Nrm u d y1 y0) (H : Half u d y1 y0 q r) (ht : 4294967296 ≤ q ∨ 4294967296 * r + d < q * y0) : Half u d y1 y0 (q - 1) (r + y1) ∧ q - 1 ≤ 4294967296 ∧ 1 ≤ q := by
  have hq := q_nonneg h
  have hl := q_lt h
  have hle := (le_q (q := q) h).1
  obtain ⟨a, b, c, d', e, f, g, i⟩ := h
  obtain ⟨p0, p1, p2, p3, p4⟩ := H
  have key : (u * 4294967296 + d) / (y1 * 4294967296 + y0) < q := by
    rcases ht with ht | ht
    · omega
    · refine Int.not_le.1 fun hn => ?_
      have := hle hn
      have e1 : q * (y1 * 4294967296 + y0) = q * y1 * 4294967296 + q * y0 := by grind
      omega
  have e2 : (q - 1) * y1 = q * y1 - y1 := by grind
  refine ⟨⟨by omega, by omega, by omega, by omega, by omega⟩, by omega, by omega⟩

theorem half_end {u d y1 y0 q r : Int} (h : Nrm u d y1 y0) (H : Half u d y1 y0 q r) (ht : q * y0 ≤ 4294967296 * r + d) : q = (u * 4294967296 + d) / (y1 * 4294967296 + y0) := by
  have hle := (le_q (q := q) h).2
  obtain ⟨p0, p1, p2, p3, p4⟩ := H
  have e1 : q * (y1 * 4294967296 + y0) = q * y1 * 4294967296 + q * y0 := by grind
  have := hle (by omega)
  omega
theorem half_brk {u d y1 y0 q r : Int} (h : Nrm u d y1 y0) (H : Half u d y1 y0 q r) (hq : q ≤ 4294967296) (hr : 4294967296 ≤ r) : q = (u * 4294967296 + d) / (y1 * 4294967296 + y0) := by
  refine half_end h H ?_
  obtain ⟨a, b, c, d', e, f, g, i⟩ := h
  obtain ⟨p0, p1, p2, p3, p4⟩ := H
  have : q * y0 ≤ 4294967296 * 4294967296 := Int.mul_le_mul hq (by omega) c (by omega)
  omega
/-- No product of the test is too great. -/
theorem half_room {u d y1 y0 q r : Int} (h : Nrm u d y1 y0) (H : Half u d y1 y0 q r) : 0 ≤ q * y0 ∧ q * y0 < 18446744073709551616 := by
  obtain ⟨a, b, c, d', e, f, g, i⟩ := h
  obtain ⟨p0, p1, p2, p3, p4⟩ := H
  refine ⟨Int.mul_nonneg p0 c, ?_⟩
  have : q * y0 ≤ 4294967297 * 4294967295 := Int.mul_le_mul p4 (by omega) c (by omega)
  omega

/-- The two half digits together. -/
theorem halves {u un1 un0 Y q1 q0 : Int} (hY : 0 < Y) (_h1 : q1 = (u * 4294967296 + un1) / Y) (h0 : q0 = ((u * 4294967296 + un1 - q1 * Y) * 4294967296 + un0) / Y) :
    (u * 18446744073709551616 + un1 * 4294967296 + un0) / Y = q1 * 4294967296 + q0 ∧
    (u * 18446744073709551616 + un1 * 4294967296 + un0) % Y = (u * 4294967296 + un1 - q1 * Y) * 4294967296 + un0 - q0 * Y := by
  have a1 := Int.emod_add_mul_ediv ((u * 4294967296 + un1 - q1 * Y) * 4294967296 + un0) Y
  have a2 := Int.emod_nonneg ((u * 4294967296 + un1 - q1 * Y) * 4294967296 + un0) (by omega : Y ≠ 0)
  have a3 := Int.emod_lt_of_pos ((u * 4294967296 + un1 - q1 * Y) * 4294967296 + un0) hY
  rw [← h0] at a1
  generalize ((u * 4294967296 + un1 - q1 * Y) * 4294967296 + un0) % Y = R at *
  have e : u * 18446744073709551616 + un1 * 4294967296 + un0 = R + Y * (q1 * 4294967296 + q0) := by grind
  have e2 : (u * 4294967296 + un1 - q1 * Y) * 4294967296 + un0 - q0 * Y = R := by grind
  rw [e, e2, Int.add_mul_ediv_left _ _ (by omega), Int.add_mul_emod_self_left, Int.ediv_eq_zero_of_lt a2 a3, Int.emod_eq_of_lt a2 a3]
  exact ⟨by omega, rfl⟩

end Go.Proofs.Ytcndfpfjckkinaa

/-
  bits.Div64: the numbers that it starts from.
-/
namespace Go.Proofs.Ytcndfpfjckkinaa
open Go Go.RowKit

theorem u64_id {x : Int} (h0 : 0 ≤ x) (h1 : x < 18446744073709551616) : IntKind.u64.wrap x = x := by rw [IntKind.wrap_u64]; omega
theorem mask32 (x : Int) (h0 : 0 ≤ x) (h1 : x < 18446744073709551616) : bits .and .u64 x 4294967295 = x % 4294967296 := by
  obtain ⟨X, rfl⟩ := Int.eq_ofNat_of_zero_le h0
  have h := bits_and_u64_nat X 4294967295 (by omega) (by omega)
  have e : X &&& 4294967295 = X % 4294967296 := Nat.and_two_pow_sub_one_eq_mod X 32
  rw [e] at h
  exact h
theorem or_add (h b : Int) (s : Nat) (h0 : 0 ≤ h) (b0 : 0 ≤ b) (hh : h * 2 ^ s < 18446744073709551616) (hb : b < 2 ^ s) (h2 : h * 2 ^ s + b < 18446744073709551616) : bits .or .u64 (h * 2 ^ s) b = h * 2 ^ s + b := by
  obtain ⟨H, rfl⟩ := Int.eq_ofNat_of_zero_le h0
  obtain ⟨B, rfl⟩ := Int.eq_ofNat_of_zero_le b0
  have e2 : ((2 ^ s : Nat) : Int) = 2 ^ s := by push_cast; rfl
  rw [← e2] at hh hb h2 ⊢
  have e : (H : Int) * ((2 ^ s : Nat) : Int) = ((H * 2 ^ s : Nat) : Int) := (Int.natCast_mul _ _).symm
  rw [e] at hh h2 ⊢
  rw [bits_or_u64_nat _ _ (by omega) (by omega)]
  have := Nat.shiftLeft_add_eq_or_of_lt (b := B) (i := s) (by omega) H
  rw [Nat.shiftLeft_eq] at this
  rw [← this]
  exact Int.natCast_add _ _

theorem pow_s (s : Nat) (hs : s ≤ 63) : (2 : Int) ^ (64 - s) * 2 ^ s = 18446744073709551616 ∧ (0 : Int) < 2 ^ s ∧ (0 : Int) < 2 ^ (64 - s) := by
  refine ⟨?_, ?_, ?_⟩
  · rw [← Int.pow_add, show 64 - s + s = 64 by omega]; rfl
  · exact Int.pow_pos (by omega)
  · exact Int.pow_pos (by omega)

theorem div_pre (h l y : Int) (s : Nat) (h0 : 0 < h) (hy : h < y) (l0 : 0 ≤ l) (l1 : l < 18446744073709551616) (s1 : s ≤ 63) (s2 : 9223372036854775808 ≤ y * 2 ^ s) (s3 : y * 2 ^ s < 18446744073709551616) :
    ∃ Y Y1 Y0 U T T1 T0 : Int, y * 2 ^ s = Y ∧ Y / 4294967296 = Y1 ∧ bits .and .u64 Y 4294967295 = Y0 ∧ bits .or .u64 (IntKind.u64.wrap (h * 2 ^ s)) (l / 2 ^ (64 - s)) = U ∧
      IntKind.u64.wrap (l * 2 ^ s) = T ∧ T / 4294967296 = T1 ∧ bits .and .u64 T 4294967295 = T0 ∧ Y = Y1 * 4294967296 + Y0 ∧ T = T1 * 4294967296 + T0 ∧ 0 ≤ T0 ∧ T0 < 4294967296 ∧
      Nrm U T1 Y1 Y0 ∧ (h * 18446744073709551616 + l) * 2 ^ s = U * 18446744073709551616 + T1 * 4294967296 + T0 := by
  obtain ⟨p, p0, p1⟩ := pow_s s s1
  have a0 : 0 < h * 2 ^ s := Int.mul_pos h0 p0
  have a1 : (h + 1) * 2 ^ s ≤ y * 2 ^ s := Int.mul_le_mul_of_nonneg_right (by omega) (by omega)
  have a2 : (h + 1) * 2 ^ s = h * 2 ^ s + 2 ^ s := by grind
  have b0 : 0 ≤ l / 2 ^ (64 - s) := Int.ediv_nonneg l0 (by omega)
  have b1 : l / 2 ^ (64 - s) < 2 ^ s := by
    apply Int.ediv_lt_of_lt_mul p1
    rw [Int.mul_comm, p]; exact l1
  have c1 : l * 2 ^ s / 18446744073709551616 = l / 2 ^ (64 - s) := by
    rw [← p, Int.mul_ediv_mul_of_pos_left _ _ p0]
  have hw : IntKind.u64.wrap (l * 2 ^ s) = l * 2 ^ s % 18446744073709551616 := IntKind.wrap_u64 _
  have e1 : bits .or .u64 (IntKind.u64.wrap (h * 2 ^ s)) (l / 2 ^ (64 - s)) = h * 2 ^ s + l / 2 ^ (64 - s) := by
    rw [u64_id (by omega) (by omega), or_add h _ s (by omega) b0 (by omega) b1 (by omega)]
  refine ⟨y * 2 ^ s, y * 2 ^ s / 4294967296, y * 2 ^ s % 4294967296, h * 2 ^ s + l / 2 ^ (64 - s), l * 2 ^ s % 18446744073709551616, l * 2 ^ s % 18446744073709551616 / 4294967296, l * 2 ^ s % 18446744073709551616 % 4294967296, rfl, rfl, mask32 _ (by omega) (by omega), e1, hw, rfl, mask32 _ (by omega) (by omega), by omega, by omega, by omega, by omega, ⟨by omega, by omega, by omega, by omega, by omega, by omega, by omega, by omega⟩, ?_⟩
  have e2 : (h * 18446744073709551616 + l) * 2 ^ s = h * 2 ^ s * 18446744073709551616 + l * 2 ^ s := by grind
  rw [e2]
  omega

/-- The rest of the first half digit, as the code comes to it. -/
theorem div_mid {U T1 Y1 Y0 Y q : Int} (h : Nrm U T1 Y1 Y0) (hY : Y = Y1 * 4294967296 + Y0) (hq : q = (U * 4294967296 + T1) / (Y1 * 4294967296 + Y0)) :
    IntKind.u64.wrap (IntKind.u64.wrap (IntKind.u64.wrap (U * 4294967296) + T1) - IntKind.u64.wrap (q * Y)) = U * 4294967296 + T1 - q * Y ∧
    ∀ {d : Int}, 0 ≤ d → d < 4294967296 → Nrm (U * 4294967296 + T1 - q * Y) d Y1 Y0 := by
  obtain ⟨a, b, c, d', e, f, g, i⟩ := h
  rw [← hY] at hq f
  have a1 := Int.emod_add_mul_ediv (U * 4294967296 + T1) Y
  have a2 := Int.emod_nonneg (U * 4294967296 + T1) (by omega : Y ≠ 0)
  have a3 := Int.emod_lt_of_pos (U * 4294967296 + T1) (by omega : 0 < Y)
  rw [← hq, Int.mul_comm Y q] at a1
  have hv : 0 ≤ U * 4294967296 + T1 - q * Y ∧ U * 4294967296 + T1 - q * Y < Y := by omega
  refine ⟨?_, fun h0 h1 => ⟨a, b, c, d', hv.1, by rw [← hY]; exact hv.2, h0, h1⟩⟩
  simp only [IntKind.wrap_u64]
  omega

/-- The first guess of a half digit, as the code comes to it. -/
theorem div_first {U d Y1 Y0 : Int} (h : Nrm U d Y1 Y0) : U.tdiv Y1 = U / Y1 ∧ IntKind.u64.wrap (U / Y1) = U / Y1 ∧ IntKind.u64.wrap (U / Y1 * Y1) = U / Y1 * Y1 ∧ IntKind.u64.wrap (U - U / Y1 * Y1) = U - U / Y1 * Y1 := by
  obtain ⟨⟨i0, i1, i2, i3, i4⟩, hIr⟩ := half_init h
  obtain ⟨n0, n1, n2, n3, n4, n5, n6, n7⟩ := h
  exact ⟨Int.tdiv_eq_ediv_of_nonneg n4, u64_id i0 (by omega), u64_id (Int.mul_nonneg i0 (by omega)) (by omega), u64_id (by omega) (by omega)⟩

/-- What is returned. -/
theorem div_end {h l y Y Y1 Y0 U T1 T0 Q V q : Int} {s : Nat} (s1 : s ≤ 63) (hs : y * 2 ^ s = Y) (hV : (h * 18446744073709551616 + l) * 2 ^ s = U * 18446744073709551616 + T1 * 4294967296 + T0) (hY : Y = Y1 * 4294967296 + Y0)
    (hN : Nrm U T1 Y1 Y0) (hQ : Q = (U * 4294967296 + T1) / (Y1 * 4294967296 + Y0)) (hv : V = U * 4294967296 + T1 - Q * Y) (hM : Nrm V T0 Y1 Y0) (hq : q = (V * 4294967296 + T0) / (Y1 * 4294967296 + Y0)) :
    IntKind.u64.wrap (IntKind.u64.wrap (Q * 4294967296) + q) = (h * 18446744073709551616 + l) / y ∧
    IntKind.u64.wrap (IntKind.u64.wrap (IntKind.u64.wrap (V * 4294967296) + T0) - IntKind.u64.wrap (q * Y)) / 2 ^ s = (h * 18446744073709551616 + l) % y := by
  obtain ⟨p, p0, p1⟩ := pow_s s s1
  have a0 := q_nonneg hN
  have a1 := q_lt hN
  have b0 := q_nonneg hM
  have b1 := q_lt hM
  rw [← hQ] at a0 a1
  rw [← hq] at b0 b1
  have hk := (div_mid hM hY hq).1
  have hY0 : 0 < Y := by obtain ⟨n0, n1, n2, n3, n4, n5, n6, n7⟩ := hN; omega
  rw [← hY] at hQ hq
  rw [hv] at hq
  obtain ⟨d1, d2⟩ := halves (un0 := T0) hY0 hQ hq
  rw [← hV, ← hs] at d1 d2
  rw [Int.mul_ediv_mul_of_pos_left _ _ p0] at d1
  have d3 : ∀ N : Int, N * 2 ^ s % (y * 2 ^ s) = N % y * 2 ^ s := by
    intro N
    rw [Int.mul_comm N, Int.mul_comm y, Int.mul_emod_mul_of_pos _ _ p0, Int.mul_comm]
  rw [d3] at d2
  refine ⟨?_, ?_⟩
  · rw [d1, u64_id (x := Q * 4294967296) (by omega) (by omega), u64_id (by omega) (by omega)]
  · rw [hk, hv, ← hs, ← d2]
    exact Int.mul_ediv_cancel _ (by omega)

end Go.Proofs.Ytcndfpfjckkinaa

/-
  bits.Div64: the walk.
-/
namespace Go.Proofs.Ytcndfpfjckkinaa
open Go Go.RowKit

set_option maxRecDepth 100000 in
set_option maxHeartbeats 1600000 in
theorem div64_low (l y : Int) (w : World) (y0 : 0 < y) (l0 : 0 ≤ l) (l1 : l < 18446744073709551616) :
    Calls Try.prog 224 #[.int .u64 0, .int .u64 l, .int .u64 y] w fun e w' => e = .returned (.tuple #[.int .u64 (l / y), .int .u64 (l % y)]) ∧ Ext w w' := by
  have e0 : ¬ y = 0 := by omega
  have g0 : (y == 0) = false := by simpa using e0
  have a0 : 0 ≤ l / y := Int.ediv_nonneg l0 (by omega)
  have a1 : l / y < 18446744073709551616 := Int.lt_of_le_of_lt (Int.ediv_le_self y l0) l1
  go_enter Try.func224, Try.ntmps224
  go_wp2_with fail
  go_quiet (fail)
  go_wp2_with fail
  refine bodyPost_ret (v := .tuple #[.int .u64 (l / y), .int .u64 (l % y)]) (by simp [results, Try.results224, go_sem]) rfl ⟨rfl, (by repeat (first | exact Ext.refl _ | refine Ext.alloc ?_ | refine Ext.drew ?_ | refine Ext.drewN ?_ | refine Ext.set ?_ (Ext.size ?_) | refine Ext.set ?_ (Ext.size1 ?_) | refine Ext.set ?_ (Ext.size2 ?_) | refine Ext.trans ?_ (by assumption)))⟩

set_option maxRecDepth 100000 in
set_option maxHeartbeats 1600000 in
theorem div64_high (h l y : Int) (w : World) (h0 : 0 < h) (hy : h < y) (y1 : y < 18446744073709551616) (l0 : 0 ≤ l) (l1 : l < 18446744073709551616) :
    Calls Try.prog 224 #[.int .u64 h, .int .u64 l, .int .u64 y] w fun e w' => e = .returned (.tuple #[.int .u64 ((h * 18446744073709551616 + l) / y), .int .u64 ((h * 18446744073709551616 + l) % y)]) ∧ Ext w w' := by
  have H1 := Lib.hid lz64
  go_enter Try.func224, Try.ntmps224
  go_wp2_with fail
  refine (H1.out _ _ (by omega) (by omega)).mono ?_
  rintro e w1 ⟨s, rfl, s1, s2, s3, rfl⟩
  clear H1
  go_wp2_with fail
  obtain ⟨Y, Y1, Y0, U, T, T1, T0, e1, e2, e3, e4, e5, e6, e7, hY, hT, t0, t1, hN, hV⟩ := div_pre h l y s h0 hy l0 l1 s1 s2 s3
  simp only [e1, e2, e3, e4, e5, e6, e7]
  have ⟨n0, n1, n2, n3, n4, n5, n6, n7⟩ := hN
  obtain ⟨hI, hIr⟩ := half_init hN
  have ⟨i0, i1, i2, i3, i4⟩ := hI
  have f1 : U.tdiv Y1 = U / Y1 := Int.tdiv_eq_ediv_of_nonneg n4
  have f2 : IntKind.u64.wrap (U / Y1) = U / Y1 := u64_id i0 (by omega)
  have f3 : IntKind.u64.wrap (U / Y1 * Y1) = U / Y1 * Y1 := u64_id (Int.mul_nonneg i0 (by omega)) (by omega)
  have f4 : IntKind.u64.wrap (U - U / Y1 * Y1) = U - U / Y1 * Y1 := u64_id (by omega) (by omega)
  simp only [f1, f2, f3, f4]
  have HV := Lib.hid hV
  have eY := Lib.hid hY
  have eYs := Lib.hid e1
  have yb0 : 0 < Y := by omega
  have yb1 : Y < 18446744073709551616 := by omega
  have tb0 : 0 ≤ T := by omega
  have tb1 : T < 18446744073709551616 := by omega
  clear f1 f2 f3 f4 e1 e2 e3 e4 e5 e6 e7 i0 i1 i2 i3 i4 hV hY hT s2 s3
  go_loop [15, 16] (fun s15 s16 => ∃ q r : Int, s15 = .int .u64 q ∧ s16 = .int .u64 r ∧ Half U T1 Y1 Y0 q r ∧ r < 4294967296) (fun s15 _ => (intOf s15).toNat)
  case atStart => exact ⟨_, _, rfl, rfl, hI, by omega⟩
  case round =>
    clear hI hIr
    obtain ⟨q, r, rfl, rfl, H, hr⟩ := hrel
    have ⟨g1, g2⟩ := half_room hN H
    have ⟨H0, H1', H2, H3, H4⟩ := H
    have HH := Lib.hid H
    clear H H2 H3
    by_cases ht : 4294967296 ≤ q
    · have HT := Lib.hid (Or.inl ht : 4294967296 ≤ q ∨ 4294967296 * r + T1 < q * Y0)
      by_cases hb : 4294967296 ≤ r + Y1
      · have hq0 := half_brk hN (half_step hN HH.out HT.out).1 (half_step hN HH.out HT.out).2.1 hb
        obtain ⟨k1, hVb⟩ := div_mid hN eY.out hq0
        obtain ⟨Q, hQ⟩ : ∃ Q, Q = q - 1 := ⟨_, rfl⟩
        have hQ1 := Lib.hid (hQ.trans hq0)
        rw [← hQ] at k1 hVb
        clear hq0
        go_wp2_with fail
        simp only [← hQ]
        simp only [k1]
        obtain ⟨V, hV⟩ : ∃ V, V = U * 4294967296 + T1 - Q * Y := ⟨_, rfl⟩
        rw [← hV] at hVb
        simp only [← hV]
        have hM : Nrm V T0 Y1 Y0 := hVb t0 t1
        obtain ⟨f1, f2, f3, f4⟩ := div_first hM
        simp only [f1, f2, f3, f4]
        have hV' := Lib.hid hV
        clear hV
        obtain ⟨hI, hIr⟩ := half_init hM
        clear f1 f2 f3 f4 k1 hVb hQ
        go_loop [18, 16] (fun s18 s16 => ∃ q r : Int, s18 = .int .u64 q ∧ s16 = .int .u64 r ∧ Half V T0 Y1 Y0 q r ∧ r < 4294967296) (fun s18 _ => (intOf s18).toNat)
        case atStart => exact ⟨_, _, rfl, rfl, hI, by omega⟩
        case round =>
          clear hI hIr
          obtain ⟨q, r, rfl, rfl, H, hr⟩ := hrel
          have ⟨g1, g2⟩ := half_room hM H
          have ⟨H0, H1', H2, H3, H4⟩ := H
          have HH := Lib.hid H
          clear H H2 H3
          by_cases ht : 4294967296 ≤ q
          · have HT := Lib.hid (Or.inl ht : 4294967296 ≤ q ∨ 4294967296 * r + T0 < q * Y0)
            by_cases hb : 4294967296 ≤ r + Y1
            · have hq0 := half_brk hM (half_step hM HH.out HT.out).1 (half_step hM HH.out HT.out).2.1 hb
              have HQ0 := Lib.hid hq0
              clear hq0
              go_wp2_with fail
              obtain ⟨z1, z2⟩ := div_end (h := h) (l := l) (y := y) s1 eYs.out HV.out eY.out hN hQ1.out hV'.out hM HQ0.out
              simp only [z1, z2]
              refine bodyPost_ret (v := .tuple #[.int .u64 ((h * 18446744073709551616 + l) / y), .int .u64 ((h * 18446744073709551616 + l) % y)]) (by simp [results, Try.results224, go_sem]) rfl ⟨rfl, (by repeat (first | exact Ext.refl _ | refine Ext.alloc ?_ | refine Ext.drew ?_ | refine Ext.drewN ?_ | refine Ext.set ?_ (Ext.size ?_) | refine Ext.set ?_ (Ext.size1 ?_) | refine Ext.set ?_ (Ext.size2 ?_) | refine Ext.trans ?_ (by assumption)))⟩
            · go_wp2_with fail
              go_round
              case rel => exact ⟨_, _, rfl, rfl, (half_step hM HH.out HT.out).1, by omega⟩
              case measure => simp [intOf]; omega
          · by_cases ht2 : 4294967296 * r + T0 < q * Y0
            · have HT := Lib.hid (Or.inr ht2 : 4294967296 ≤ q ∨ 4294967296 * r + T0 < q * Y0)
              have hq1 := (half_step hM HH.out HT.out).2.2
              by_cases hb : 4294967296 ≤ r + Y1
              · have hq0 := half_brk hM (half_step hM HH.out HT.out).1 (half_step hM HH.out HT.out).2.1 hb
                have HQ0 := Lib.hid hq0
                clear hq0
                go_wp2_with fail
                obtain ⟨z1, z2⟩ := div_end (h := h) (l := l) (y := y) s1 eYs.out HV.out eY.out hN hQ1.out hV'.out hM HQ0.out
                simp only [z1, z2]
                refine bodyPost_ret (v := .tuple #[.int .u64 ((h * 18446744073709551616 + l) / y), .int .u64 ((h * 18446744073709551616 + l) % y)]) (by simp [results, Try.results224, go_sem]) rfl ⟨rfl, (by repeat (first | exact Ext.refl _ | refine Ext.alloc ?_ | refine Ext.drew ?_ | refine Ext.drewN ?_ | refine Ext.set ?_ (Ext.size ?_) | refine Ext.set ?_ (Ext.size1 ?_) | refine Ext.set ?_ (Ext.size2 ?_) | refine Ext.trans ?_ (by assumption)))⟩
              · go_wp2_with fail
                go_round
                case rel => exact ⟨_, _, rfl, rfl, (half_step hM HH.out HT.out).1, by omega⟩
                case measure => simp [intOf]; omega
            · have hq0 := half_end hM HH.out (by omega)
              have HQ0 := Lib.hid hq0
              clear hq0
              go_wp2_with fail
              obtain ⟨z1, z2⟩ := div_end (h := h) (l := l) (y := y) s1 eYs.out HV.out eY.out hN hQ1.out hV'.out hM HQ0.out
              simp only [z1, z2]
              refine bodyPost_ret (v := .tuple #[.int .u64 ((h * 18446744073709551616 + l) / y), .int .u64 ((h * 18446744073709551616 + l) % y)]) (by simp [results, Try.results224, go_sem]) rfl ⟨rfl, (by repeat (first | exact Ext.refl _ | refine Ext.alloc ?_ | refine Ext.drew ?_ | refine Ext.drewN ?_ | refine Ext.set ?_ (Ext.size ?_) | refine Ext.set ?_ (Ext.size1 ?_) | refine Ext.set ?_ (Ext.size2 ?_) | refine Ext.trans ?_ (by assumption)))⟩
      · go_wp2_with fail
        go_round
        case rel => exact ⟨_, _, rfl, rfl, (half_step hN HH.out HT.out).1, by omega⟩
        case measure => simp [intOf]; omega
    · by_cases ht2 : 4294967296 * r + T1 < q * Y0
      · have HT := Lib.hid (Or.inr ht2 : 4294967296 ≤ q ∨ 4294967296 * r + T1 < q * Y0)
        have hq1 := (half_step hN HH.out HT.out).2.2
        by_cases hb : 4294967296 ≤ r + Y1
        · have hq0 := half_brk hN (half_step hN HH.out HT.out).1 (half_step hN HH.out HT.out).2.1 hb
          obtain ⟨k1, hVb⟩ := div_mid hN eY.out hq0
          obtain ⟨Q, hQ⟩ : ∃ Q, Q = q - 1 := ⟨_, rfl⟩
          have hQ1 := Lib.hid (hQ.trans hq0)
          rw [← hQ] at k1 hVb
          clear hq0
          go_wp2_with fail
          simp only [← hQ]
          simp only [k1]
          obtain ⟨V, hV⟩ : ∃ V, V = U * 4294967296 + T1 - Q * Y := ⟨_, rfl⟩
          rw [← hV] at hVb
          simp only [← hV]
          have hM : Nrm V T0 Y1 Y0 := hVb t0 t1
          obtain ⟨f1, f2, f3, f4⟩ := div_first hM
          simp only [f1, f2, f3, f4]
          have hV' := Lib.hid hV
          clear hV
          obtain ⟨hI, hIr⟩ := half_init hM
          clear f1 f2 f3 f4 k1 hVb hQ
          go_loop [18, 16] (fun s18 s16 => ∃ q r : Int, s18 = .int .u64 q ∧ s16 = .int .u64 r ∧ Half V T0 Y1 Y0 q r ∧ r < 4294967296) (fun s18 _ => (intOf s18).toNat)
          case atStart => exact ⟨_, _, rfl, rfl, hI, by omega⟩
          case round =>
            clear hI hIr
            obtain ⟨q, r, rfl, rfl, H, hr⟩ := hrel
            have ⟨g1, g2⟩ := half_room hM H
            have ⟨H0, H1', H2, H3, H4⟩ := H
            have HH := Lib.hid H
            clear H H2 H3
            by_cases ht : 4294967296 ≤ q
            · have HT := Lib.hid (Or.inl ht : 4294967296 ≤ q ∨ 4294967296 * r + T0 < q * Y0)
              by_cases hb : 4294967296 ≤ r + Y1
              · have hq0 := half_brk hM (half_step hM HH.out HT.out).1 (half_step hM HH.out HT.out).2.1 hb
                have HQ0 := Lib.hid hq0
                clear hq0
                go_wp2_with fail
                obtain ⟨z1, z2⟩ := div_end (h := h) (l := l) (y := y) s1 eYs.out HV.out eY.out hN hQ1.out hV'.out hM HQ0.out
                simp only [z1, z2]
                refine bodyPost_ret (v := .tuple #[.int .u64 ((h * 18446744073709551616 + l) / y), .int .u64 ((h * 18446744073709551616 + l) % y)]) (by simp [results, Try.results224, go_sem]) rfl ⟨rfl, (by repeat (first | exact Ext.refl _ | refine Ext.alloc ?_ | refine Ext.drew ?_ | refine Ext.drewN ?_ | refine Ext.set ?_ (Ext.size ?_) | refine Ext.set ?_ (Ext.size1 ?_) | refine Ext.set ?_ (Ext.size2 ?_) | refine Ext.trans ?_ (by assumption)))⟩
              · go_wp2_with fail
                go_round
                case rel => exact ⟨_, _, rfl, rfl, (half_step hM HH.out HT.out).1, by omega⟩
                case measure => simp [intOf]; omega
            · by_cases ht2 : 4294967296 * r + T0 < q * Y0
              · have HT := Lib.hid (Or.inr ht2 : 4294967296 ≤ q ∨ 4294967296 * r + T0 < q * Y0)
                have hq1 := (half_step hM HH.out HT.out).2.2
                by_cases hb : 4294967296 ≤ r + Y1
                · have hq0 := half_brk hM (half_step hM HH.out HT.out).1 (half_step hM HH.out HT.out).2.1 hb
                  have HQ0 := Lib.hid hq0
                  clear hq0
                  go_wp2_with fail
                  obtain ⟨z1, z2⟩ := div_end (h := h) (l := l) (y := y) s1 eYs.out HV.out eY.out hN hQ1.out hV'.out hM HQ0.out
                  simp only [z1, z2]
                  refine bodyPost_ret (v := .tuple #[.int .u64 ((h * 18446744073709551616 + l) / y), .int .u64 ((h * 18446744073709551616 + l) % y)]) (by simp [results, Try.results224, go_sem]) rfl ⟨rfl, (by repeat (first | exact Ext.refl _ | refine Ext.alloc ?_ | refine Ext.drew ?_ | refine Ext.drewN ?_ | refine Ext.set ?_ (Ext.size ?_) | refine Ext.set ?_ (Ext.size1 ?_) | refine Ext.set ?_ (Ext.size2 ?_) | refine Ext.trans ?_ (by assumption)))⟩
                · go_wp2_with fail
                  go_round
                  case rel => exact ⟨_, _, rfl, rfl, (half_step hM HH.out HT.out).1, by omega⟩
                  case measure => simp [intOf]; omega
              · have hq0 := half_end hM HH.out (by omega)
                have HQ0 := Lib.hid hq0
                clear hq0
                go_wp2_with fail
                obtain ⟨z1, z2⟩ := div_end (h := h) (l := l) (y := y) s1 eYs.out HV.out eY.out hN hQ1.out hV'.out hM HQ0.out
                simp only [z1, z2]
                refine bodyPost_ret (v := .tuple #[.int .u64 ((h * 18446744073709551616 + l) / y), .int .u64 ((h * 18446744073709551616 + l) % y)]) (by simp [results, Try.results224, go_sem]) rfl ⟨rfl, (by repeat (first | exact Ext.refl _ | refine Ext.alloc ?_ | refine Ext.drew ?_ | refine Ext.drewN ?_ | refine Ext.set ?_ (Ext.size ?_) | refine Ext.set ?_ (Ext.size1 ?_) | refine Ext.set ?_ (Ext.size2 ?_) | refine Ext.trans ?_ (by assumption)))⟩
        · go_wp2_with fail
          go_round
          case rel => exact ⟨_, _, rfl, rfl, (half_step hN HH.out HT.out).1, by omega⟩
          case measure => simp [intOf]; omega
      · have hq0 := half_end hN HH.out (by omega)
        obtain ⟨k1, hVb⟩ := div_mid hN eY.out hq0
        obtain ⟨Q, hQ⟩ : ∃ Q, Q = q := ⟨_, rfl⟩
        have hQ1 := Lib.hid (hQ.trans hq0)
        rw [← hQ] at k1 hVb
        clear hq0
        go_wp2_with fail
        simp only [← hQ]
        simp only [k1]
        obtain ⟨V, hV⟩ : ∃ V, V = U * 4294967296 + T1 - Q * Y := ⟨_, rfl⟩
        rw [← hV] at hVb
        simp only [← hV]
        have hM : Nrm V T0 Y1 Y0 := hVb t0 t1
        obtain ⟨f1, f2, f3, f4⟩ := div_first hM
        simp only [f1, f2, f3, f4]
        have hV' := Lib.hid hV
        clear hV
        obtain ⟨hI, hIr⟩ := half_init hM
        clear f1 f2 f3 f4 k1 hVb hQ
        go_loop [18, 16] (fun s18 s16 => ∃ q r : Int, s18 = .int .u64 q ∧ s16 = .int .u64 r ∧ Half V T0 Y1 Y0 q r ∧ r < 4294967296) (fun s18 _ => (intOf s18).toNat)
        case atStart => exact ⟨_, _, rfl, rfl, hI, by omega⟩
        case round =>
          clear hI hIr
          obtain ⟨q, r, rfl, rfl, H, hr⟩ := hrel
          have ⟨g1, g2⟩ := half_room hM H
          have ⟨H0, H1', H2, H3, H4⟩ := H
          have HH := Lib.hid H
          clear H H2 H3
          by_cases ht : 4294967296 ≤ q
          · have HT := Lib.hid (Or.inl ht : 4294967296 ≤ q ∨ 4294967296 * r + T0 < q * Y0)
            by_cases hb : 4294967296 ≤ r + Y1
            · have hq0 := half_brk hM (half_step hM HH.out HT.out).1 (half_step hM HH.out HT.out).2.1 hb
              have HQ0 := Lib.hid hq0
              clear hq0
              go_wp2_with fail
              obtain ⟨z1, z2⟩ := div_end (h := h) (l := l) (y := y) s1 eYs.out HV.out eY.out hN hQ1.out hV'.out hM HQ0.out
              simp only [z1, z2]
              refine bodyPost_ret (v := .tuple #[.int .u64 ((h * 18446744073709551616 + l) / y), .int .u64 ((h * 18446744073709551616 + l) % y)]) (by simp [results, Try.results224, go_sem]) rfl ⟨rfl, (by repeat (first | exact Ext.refl _ | refine Ext.alloc ?_ | refine Ext.drew ?_ | refine Ext.drewN ?_ | refine Ext.set ?_ (Ext.size ?_) | refine Ext.set ?_ (Ext.size1 ?_) | refine Ext.set ?_ (Ext.size2 ?_) | refine Ext.trans ?_ (by assumption)))⟩
            · go_wp2_with fail
              go_round
              case rel => exact ⟨_, _, rfl, rfl, (half_step hM HH.out HT.out).1, by omega⟩
              case measure => simp [intOf]; omega
          · by_cases ht2 : 4294967296 * r + T0 < q * Y0
            · have HT := Lib.hid (Or.inr ht2 : 4294967296 ≤ q ∨ 4294967296 * r + T0 < q * Y0)
              have hq1 := (half_step hM HH.out HT.out).2.2
              by_cases hb : 4294967296 ≤ r + Y1
              · have hq0 := half_brk hM (half_step hM HH.out HT.out).1 (half_step hM HH.out HT.out).2.1 hb
                have HQ0 := Lib.hid hq0
                clear hq0
                go_wp2_with fail
                obtain ⟨z1, z2⟩ := div_end (h := h) (l := l) (y := y) s1 eYs.out HV.out eY.out hN hQ1.out hV'.out hM HQ0.out
                simp only [z1, z2]
                refine bodyPost_ret (v := .tuple #[.int .u64 ((h * 18446744073709551616 + l) / y), .int .u64 ((h * 18446744073709551616 + l) % y)]) (by simp [results, Try.results224, go_sem]) rfl ⟨rfl, (by repeat (first | exact Ext.refl _ | refine Ext.alloc ?_ | refine Ext.drew ?_ | refine Ext.drewN ?_ | refine Ext.set ?_ (Ext.size ?_) | refine Ext.set ?_ (Ext.size1 ?_) | refine Ext.set ?_ (Ext.size2 ?_) | refine Ext.trans ?_ (by assumption)))⟩
              · go_wp2_with fail
                go_round
                case rel => exact ⟨_, _, rfl, rfl, (half_step hM HH.out HT.out).1, by omega⟩
                case measure => simp [intOf]; omega
            · have hq0 := half_end hM HH.out (by omega)
              have HQ0 := Lib.hid hq0
              clear hq0
              go_wp2_with fail
              obtain ⟨z1, z2⟩ := div_end (h := h) (l := l) (y := y) s1 eYs.out HV.out eY.out hN hQ1.out hV'.out hM HQ0.out
              simp only [z1, z2]
              refine bodyPost_ret (v := .tuple #[.int .u64 ((h * 18446744073709551616 + l) / y), .int .u64 ((h * 18446744073709551616 + l) % y)]) (by simp [results, Try.results224, go_sem]) rfl ⟨rfl, (by repeat (first | exact Ext.refl _ | refine Ext.alloc ?_ | refine Ext.drew ?_ | refine Ext.drewN ?_ | refine Ext.set ?_ (Ext.size ?_) | refine Ext.set ?_ (Ext.size1 ?_) | refine Ext.set ?_ (Ext.size2 ?_) | refine Ext.trans ?_ (by assumption)))⟩

end Go.Proofs.Ytcndfpfjckkinaa

/-
  wide.Text.
-/
namespace Go.Proofs.Ytcndfpfjckkinaa
open Go Go.RowKit

/-- The decimal digits of a number, as bytes. -/
def decs (n : Nat) : List Int := if n < 10 then [48 + (n : Int)] else decs (n / 10) ++ [48 + ((n % 10 : Nat) : Int)]
termination_by n
theorem decs_lt {n : Nat} (h : n < 10) : decs n = [48 + (n : Int)] := by rw [decs, if_pos h]
theorem decs_ge {n : Nat} (h : ¬ n < 10) : decs n = decs (n / 10) ++ [48 + ((n % 10 : Nat) : Int)] := by rw [decs, if_neg h]
/-- A number's text, as bytes. -/
def txt (n : Int) : List Int := if n < 0 then 45 :: decs n.natAbs else decs n.natAbs
theorem txt_neg {n : Int} (h : n < 0) : txt n = 45 :: decs n.natAbs := if_pos h
theorem txt_pos {n : Int} (h : ¬ n < 0) : txt n = decs n.natAbs := if_neg h

/-- Block k is an array of bytes that may be written. -/
def Arr (w : World) (k : Nat) (t : TypeId) (zs : List Int) : Prop := w.heap[k]? = some (.cells (zs.map (Value.int .u8)).toArray t (0, 0))
theorem Arr.kind {w : World} {k : Nat} {t : TypeId} {zs : List Int} (h : Arr w k t zs) : Kind w k t := ⟨_, _, h⟩
theorem Arr.ext {w w' : World} {k : Nat} {t : TypeId} {zs : List Int} (h : Arr w k t zs) (hb : Ext w w') : Arr w' k t zs := (Below.block hb k h.kind.lt).trans h
theorem Arr.cell {w : World} {k : Nat} {t : TypeId} {zs : List Int} (h : Arr w k t zs) (j : Nat) (hj : j < zs.length) : w.cell? ⟨k, j, none⟩ = some (.int .u8 (zs.getD j 0)) := by
  unfold Arr at h
  simp [World.cell?, h, List.getElem?_eq_getElem hj]
theorem Arr.frozen {w : World} {k : Nat} {t : TypeId} {zs : List Int} (h : Arr w k t zs) (j : Nat) : w.frozen? ⟨k, j, none⟩ = false := by
  unfold Arr at h
  simp [World.frozen?, h]
theorem Arr.set {w : World} {k : Nat} {t : TypeId} {zs : List Int} (h : Arr w k t zs) (j : Nat) (y : Int) : Arr (w.setCell ⟨k, j, none⟩ (.int .u8 y)) k t (zs.set j y) := by
  have h1 := Joins.block_setCell (i := j) h (.int .u8 y)
  unfold Arr
  rw [h1, List.map_set]
  simp

/-- Behind k digits c is left, and L is written. -/
def Left (N k c : Nat) (L : List Int) : Prop := L.length = k ∧ c < 10 ^ (39 - k) ∧ k ≤ 39 ∧ (k = 0 → c = N) ∧ (0 < k → (c = 0 ∧ L = decs N) ∨ (0 < c ∧ decs c ++ L = decs N))
theorem left_zero {N : Nat} (h : N < 10 ^ 39) : Left N 0 N [] := ⟨rfl, h, by omega, fun _ => rfl, fun h => absurd h (by omega)⟩
theorem left_step {N k c : Nat} {L : List Int} (h : Left N k c L) (hc : 0 < c ∨ k = 0) : Left N (k + 1) (c / 10) ((48 + ((c % 10 : Nat) : Int)) :: L) := by
  obtain ⟨h1, h2, h3, h4, h5⟩ := h
  have hk : k < 39 := by
    by_cases e : k = 39
    · subst e; simp at h2; omega
    · omega
  have e : 10 ^ (39 - k) = 10 ^ (39 - (k + 1)) * 10 := by rw [← Nat.pow_succ]; congr 1; omega
  have main : decs c ++ L = decs N := by
    rcases Nat.eq_zero_or_pos k with h0 | h0
    · subst h0
      rw [h4 rfl, List.length_eq_zero_iff.1 h1, List.append_nil]
    · rcases h5 h0 with h | h
      · omega
      · exact h.2
  refine ⟨by simp [h1], by omega, by omega, by omega, fun _ => ?_⟩
  by_cases hs : c < 10
  · left
    refine ⟨by omega, ?_⟩
    rw [← main, decs_lt hs, Nat.mod_eq_of_lt hs]; rfl
  · right
    refine ⟨by omega, ?_⟩
    rw [← main, decs_ge hs, List.append_assoc]; rfl
theorem left_end {N k c : Nat} {L : List Int} (h : Left N k c L) (hc : c = 0) (hk : 0 < k) : L = decs N := by
  obtain ⟨h1, h2, h3, h4, h5⟩ := h
  rcases h5 hk with h | h
  · exact h.2
  · omega

theorem left_bd {N k c : Nat} {L : List Int} (h : Left N k c L) (hN : (N : Int) ≤ 170141183460469231731687303715884105728) : (c : Int) < 340282366920938463463374607431768211456 := by
  obtain ⟨h1, h2, h3, h4, h5⟩ := h
  rcases Nat.eq_zero_or_pos k with h0 | h0
  · rw [h4 h0]; omega
  · have := Nat.pow_le_pow_right (n := 10) (by omega) (show 39 - k ≤ 38 by omega)
    have e : (10 : Nat) ^ 38 = 100000000000000000000000000000000000000 := by decide
    omega

theorem div64 (h l y : Int) (w : World) (h0 : 0 ≤ h) (hy : h < y) (y1 : y < 18446744073709551616) (l0 : 0 ≤ l) (l1 : l < 18446744073709551616) :
    Calls Try.prog 224 #[.int .u64 h, .int .u64 l, .int .u64 y] w fun e w' => e = .returned (.tuple #[.int .u64 ((h * 18446744073709551616 + l) / y), .int .u64 ((h * 18446744073709551616 + l) % y)]) ∧ Ext w w' := by
  by_cases e : h = 0
  · subst e
    have := div64_low l y w hy l0 l1
    rwa [show (0 : Int) * 18446744073709551616 + l = l by omega]
  · exact div64_high h l y w (by omega) hy y1 l0 l1

theorem drop_set (zs : List Int) (j : Nat) (y : Int) (hj : j < zs.length) : (zs.set j y).drop j = y :: zs.drop (j + 1) := by
  rw [List.drop_eq_getElem_cons (by simpa using hj)]
  simp [List.drop_set]
theorem mag_abs (n : Int) : mag n = (n.natAbs : Int) := by unfold mag; split <;> omega

end Go.Proofs.Ytcndfpfjckkinaa
