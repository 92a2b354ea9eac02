/-
  Texts joined: Gc, Ew, Ent, Gd, Ge, Gf, Gg, Fw, Cal, Civ, Gh, Bx. Each says at its head what it shows.
-/
import Derived.Shelf.Bits.Mul64
import Derived.BigQuiet
import Derived.Deep.RegionHeld3
import Derived.Lib.Strings
import Derived.Lib.Slices
import Derived.Lib.Small
import Derived.Lib.Walk
import Derived.Lib.BitFns
import Derived.Laws.Bits64b
import Derived.Deep.DeepCutAuto
import Derived.Laws.BytesArg
import Derived.IntWalk
import Derived.Test.YthoedmikfpbfnaaGreatProg
import Derived.RangeFuncNested
import Derived.RangeFuncBound
import Derived.RangeFuncCalls
import Derived.RangeFuncLeaves
import Derived.Shelf.Abstract
import Derived.Shelf.RegionOpen
import Derived.OwnWalkIn
import Derived.TacticsInMore
import Derived.LoopNIn
import Derived.LoopIn
import Derived.RangeFuncFrom
import Derived.KernelRfl
import Derived.Test.YthoedmikfpbfnaaGreatPGa
section
/-
  Wide numbers: how they lie in memory; wide.Of, Int, Cmp, Sign, Add, Sub, Neg.
-/
namespace Go.Proofs.YthoedmikfpbfnaaGreat
open Go Go.RowKit

/-- The two halves of a wide number. -/
def hi (n : Int) : Int := n / 18446744073709551616
def lo (n : Int) : Int := n % 18446744073709551616
/-- Has room in 128 bits. -/
def W128 (n : Int) : Prop := -170141183460469231731687303715884105728 ≤ n ∧ n < 170141183460469231731687303715884105728
theorem lo_bd (n : Int) : 0 ≤ lo n ∧ lo n < 18446744073709551616 := by unfold lo; omega
theorem hi_bd {n : Int} (h : W128 n) : -9223372036854775808 ≤ hi n ∧ hi n ≤ 9223372036854775807 := by unfold hi; unfold W128 at h; omega
theorem hi_lo (n : Int) : n = hi n * 18446744073709551616 + lo n := by unfold hi lo; omega
theorem hi_neg (n : Int) : hi n < 0 ↔ n < 0 := by unfold hi; omega
theorem of_hi_lo (h l : Int) (h0 : 0 ≤ l) (h1 : l < 18446744073709551616) : hi (h * 18446744073709551616 + l) = h ∧ lo (h * 18446744073709551616 + l) = l := by unfold hi lo; omega
theorem wide_eq {a b : Int} : (hi a = hi b ∧ lo a = lo b) ↔ a = b := by unfold hi lo; omega

theorem run_add64' (x y c : Int) (hx : 0 ≤ x) (hy : 0 ≤ y) (hc0 : 0 ≤ c) (hc : c ≤ 1) (w : World) :
    (callFunc 102 #[.int .u64 x, .int .u64 y, .int .u64 c]).run Tryz.prog w =
      .ok (.value (.tuple #[.int .u64 ((x + y + c) % 18446744073709551616), .int .u64 ((x + y + c) / 18446744073709551616)])) w := by
  rw [run_callFunc_extern Tryz.func102 (by kernel_rfl) (by kernel_rfl) (by kernel_rfl) (e := add64Entry) (by kernel_rfl), run_add64 x y c hx hy hc0 hc]
  rfl

/-- What is borrowed. -/
def bor (x y b : Int) : Int := -((x - y - b) / 18446744073709551616)
theorem bor_def (x y b : Int) : bor x y b = -((x - y - b) / 18446744073709551616) := rfl
def sub64Entry' : Array Value → Sem Value := fun args => do
  let (x, y, b) ← Extern.MathBitsCarry.three "Sub64" args
  pure (Extern.MathBitsCarry.pair ((x + Extern.MathBitsCarry.m64 - y - b) % Extern.MathBitsCarry.m64) (if x < y + b then 1 else 0))
theorem run_sub64' (x y b : Int) (hx : 0 ≤ x) (hx1 : x < 18446744073709551616) (hy : 0 ≤ y) (hy1 : y < 18446744073709551616) (hb0 : 0 ≤ b) (hb : b ≤ 1) (w : World) :
    (callFunc 121 #[.int .u64 x, .int .u64 y, .int .u64 b]).run Tryz.prog w =
      .ok (.value (.tuple #[.int .u64 ((x - y - b) % 18446744073709551616), .int .u64 (bor x y b)])) w := by
  rw [run_callFunc_extern Tryz.func121 (by kernel_rfl) (by kernel_rfl) (by kernel_rfl) (e := sub64Entry') (by kernel_rfl)]
  obtain ⟨X, rfl⟩ := Int.eq_ofNat_of_zero_le hx
  obtain ⟨Y, rfl⟩ := Int.eq_ofNat_of_zero_le hy
  have key : ∀ k : Nat, k ≤ 1 → (sub64Entry' #[.int .u64 (X : Int), .int .u64 (Y : Int), .int .u64 (k : Int)]).run Tryz.prog w =
      .ok (Extern.MathBitsCarry.pair ((X + Extern.MathBitsCarry.m64 - Y - k) % Extern.MathBitsCarry.m64) (if X < Y + k then 1 else 0)) w := by
    intro k hk
    have : k = 0 ∨ k = 1 := by omega
    rcases this with rfl | rfl <;> rfl
  obtain ⟨c, rfl⟩ := Int.eq_ofNat_of_zero_le hb0
  rw [key c (by omega)]
  simp only [Extern.MathBitsCarry.pair, Extern.MathBitsCarry.m64, Result.andThen]
  have e1 : ((((X + 2 ^ 64 - Y - c) % 2 ^ 64 : Nat)) : Int) = ((X : Int) - Y - c) % 18446744073709551616 := by omega
  have e2 : (((if X < Y + c then 1 else 0 : Nat)) : Int) = bor (X : Int) Y c := by rw [bor_def]; split <;> omega
  show Result.ok (Next.value (.tuple #[.int .u64 (((X + 2 ^ 64 - Y - c) % 2 ^ 64 : Nat) : Int), .int .u64 ((if X < Y + c then 1 else 0 : Nat) : Int)])) w = _
  rw [e1, e2]

theorem u64_nonneg (x : Int) : 0 ≤ IntKind.u64.wrap x := by rw [IntKind.wrap_u64]; omega
theorem u64_lt (x : Int) : IntKind.u64.wrap x < 18446744073709551616 := by rw [IntKind.wrap_u64]; omega
theorem u64_eq (x : Int) : IntKind.u64.wrap x = x % 18446744073709551616 := IntKind.wrap_u64 x
theorem of_pure (n : Int) (w : World) (h0 : -9223372036854775808 ≤ n) (h1 : n ≤ 9223372036854775807) :
    Calls Tryz.prog 30 #[.int .i64 n] w fun e w' => e = .returned (.agg #[.int .i64 (hi n), .int .u64 (lo n)]) ∧ Ext w w' := by
  go_enter Tryz.func30, Tryz.ntmps30
  go_wp2
  have e1 : n / 9223372036854775808 = hi n := by unfold hi; omega
  have e2 : IntKind.u64.wrap n = lo n := u64_eq n
  rw [e1, e2]
  refine bodyPost_ret (v := .agg #[.int .i64 (hi n), .int .u64 (lo n)]) (by simp [results, Tryz.results30, go_sem]) rfl ⟨rfl, (Ext.refl w).alloc⟩

theorem hi_add (m n : Int) : hi (m + n) = hi m + hi n + (lo m + lo n) / 18446744073709551616 := by unfold hi lo; omega
theorem lo_add (m n : Int) : lo (m + n) = (lo m + lo n) % 18446744073709551616 := by unfold lo; omega
theorem hi_sub (m n : Int) : hi (m - n) = hi m - hi n + (lo m - lo n) / 18446744073709551616 := by unfold hi lo; omega
theorem lo_sub (m n : Int) : lo (m - n) = (lo m - lo n) % 18446744073709551616 := by unfold lo; omega
theorem W128_iff (n : Int) : W128 n ↔ -9223372036854775808 ≤ hi n ∧ hi n ≤ 9223372036854775807 := by unfold W128 hi; omega
instance (n : Int) : Decidable (W128 n) := by unfold W128; infer_instance
/-- A wide number, or none. -/
def thi (n : Int) : Int := if W128 n then hi n else 0
def tlo (n : Int) : Int := if W128 n then lo n else 0
def ter (n : Int) : Int := if W128 n then 0 else 2
theorem thi_yes {n : Int} (h : W128 n) : thi n = hi n := if_pos h
theorem tlo_yes {n : Int} (h : W128 n) : tlo n = lo n := if_pos h
theorem ter_yes {n : Int} (h : W128 n) : ter n = 0 := if_pos h
theorem thi_no {n : Int} (h : ¬ W128 n) : thi n = 0 := if_neg h
theorem tlo_no {n : Int} (h : ¬ W128 n) : tlo n = 0 := if_neg h
theorem ter_no {n : Int} (h : ¬ W128 n) : ter n = 2 := if_neg h
/-- A call that returns the wide number n and 0, or none and 2. -/
def RetT (w : World) (n : Int) (e : Ending) (w' : World) : Prop := e = .returned (.tuple #[.agg #[.int .i64 (thi n), .int .u64 (tlo n)], .int .i64 (ter n)]) ∧ Ext w w'
theorem retT_yes {w w' : World} {n a b : Int} (h : W128 n) (ha : a = hi n) (hb : b = lo n) (hx : Ext w w') : RetT w n (.returned (.tuple #[.agg #[.int .i64 a, .int .u64 b], .int .i64 0])) w' :=
  ⟨by rw [thi_yes h, tlo_yes h, ter_yes h, ha, hb], hx⟩
theorem retT_no {w w' : World} {n : Int} (h : ¬ W128 n) (hx : Ext w w') : RetT w n (.returned (.tuple #[.agg #[.int .i64 0, .int .u64 0], .int .i64 2])) w' :=
  ⟨by rw [thi_no h, tlo_no h, ter_no h], hx⟩

/-- The upper half of a sum as the code comes to it. -/
def hsum (a b c : Int) : Int := wrap64 (a + b + c)
theorem hsum_eq (a b c : Int) : wrap64 ((IntKind.u64.wrap a + IntKind.u64.wrap b + c) % 18446744073709551616) = hsum a b c := by unfold hsum wrap64; rw [u64_eq, u64_eq]; omega
theorem hsum_def (a b c : Int) : hsum a b c = (a + b + c + 9223372036854775808) % 18446744073709551616 - 9223372036854775808 := by unfold hsum wrap64; rfl

set_option maxRecDepth 100000 in
set_option maxHeartbeats 1600000 in
theorem wadd (m n : Int) (w : World) (hm : W128 m) (hn : W128 n) :
    Calls Tryz.prog 44 #[.agg #[.int .i64 (hi m), .int .u64 (lo m)], .agg #[.int .i64 (hi n), .int .u64 (lo n)]] w (RetT w (m + n)) := by
  have r98 := run_add64'
  obtain ⟨a0, a1⟩ := lo_bd m
  obtain ⟨b0, b1⟩ := lo_bd n
  obtain ⟨a2, a3⟩ := hi_bd hm
  obtain ⟨b2, b3⟩ := hi_bd hn
  have u1 := u64_nonneg (hi m)
  have u2 := u64_nonneg (hi n)
  have c0 : 0 ≤ (lo m + lo n) / 18446744073709551616 := by omega
  have c1 : (lo m + lo n) / 18446744073709551616 ≤ 1 := by omega
  go_enter Tryz.func44, Tryz.ntmps44
  go_wp2
  all_goals
    have hi1 := hi_add m n
    have lo1 := lo_add m n
    have W1 := W128_iff (m + n)
    have hd := hsum_def (hi m) (hi n) ((lo m + lo n) / 18446744073709551616)
    simp only [hsum_eq] at *
    first
    | (refine bodyPost_ret (v := .tuple #[.agg #[.int .i64 (hsum (hi m) (hi n) ((lo m + lo n) / 18446744073709551616)), .int .u64 ((lo m + lo n) % 18446744073709551616)], .int .i64 0]) (by simp [results, Tryz.results44, go_sem]) rfl
        (retT_yes (W1.2 (by grind)) (by grind) lo1.symm (by repeat (first | exact Ext.refl _ | refine Ext.alloc ?_ | refine Ext.drew ?_ | refine Ext.drewN ?_ | refine Ext.set ?_ (Ext.size ?_) | refine Ext.set ?_ (Ext.size1 ?_) | refine Ext.set ?_ (Ext.size2 ?_) | refine Ext.trans ?_ (by assumption)))))
    | (refine bodyPost_ret (v := .tuple #[.agg #[.int .i64 0, .int .u64 0], .int .i64 2]) (by simp [results, Tryz.results44, go_sem]) rfl
        (retT_no (fun h => by have := W1.1 h; grind) (by repeat (first | exact Ext.refl _ | refine Ext.alloc ?_ | refine Ext.drew ?_ | refine Ext.drewN ?_ | refine Ext.set ?_ (Ext.size ?_) | refine Ext.set ?_ (Ext.size1 ?_) | refine Ext.set ?_ (Ext.size2 ?_) | refine Ext.trans ?_ (by assumption)))))

/-- The upper half of a difference as the code comes to it. -/
def hdif (a b c : Int) : Int := wrap64 (a - b - c)
theorem hdif_eq (a b c : Int) : wrap64 ((IntKind.u64.wrap a - IntKind.u64.wrap b - c) % 18446744073709551616) = hdif a b c := by unfold hdif wrap64; rw [u64_eq, u64_eq]; omega
theorem hdif_def (a b c : Int) : hdif a b c = (a - b - c + 9223372036854775808) % 18446744073709551616 - 9223372036854775808 := by unfold hdif wrap64; rfl

set_option maxRecDepth 100000 in
set_option maxHeartbeats 1600000 in
theorem wsub (m n : Int) (w : World) (hm : W128 m) (hn : W128 n) :
    Calls Tryz.prog 92 #[.agg #[.int .i64 (hi m), .int .u64 (lo m)], .agg #[.int .i64 (hi n), .int .u64 (lo n)]] w (RetT w (m - n)) := by
  have r102 := run_sub64'
  obtain ⟨a0, a1⟩ := lo_bd m
  obtain ⟨b0, b1⟩ := lo_bd n
  obtain ⟨a2, a3⟩ := hi_bd hm
  obtain ⟨b2, b3⟩ := hi_bd hn
  have u1 := u64_nonneg (hi m)
  have u2 := u64_nonneg (hi n)
  have u3 := u64_lt (hi m)
  have u4 := u64_lt (hi n)
  have c0 : 0 ≤ bor (lo m) (lo n) 0 := by rw [bor_def]; omega
  have c1 : bor (lo m) (lo n) 0 ≤ 1 := by rw [bor_def]; omega
  go_enter Tryz.func92, Tryz.ntmps92
  go_wp2
  all_goals
    have hi1 := hi_sub m n
    have lo1 := lo_sub m n
    have W1 := W128_iff (m - n)
    have hd := hdif_def (hi m) (hi n) (bor (lo m) (lo n) 0)
    have hbo := bor_def (lo m) (lo n) 0
    rw [Int.sub_zero] at hbo
    simp only [hdif_eq] at *
    clear r102 u1 u2 u3 u4
    first
    | (refine bodyPost_ret (v := .tuple #[.agg #[.int .i64 (hdif (hi m) (hi n) (bor (lo m) (lo n) 0)), .int .u64 ((lo m - lo n) % 18446744073709551616)], .int .i64 0]) (by simp [results, Tryz.results92, go_sem]) rfl
        (retT_yes (W1.2 (by (first | omega | grind | (simp only [Bool.not_eq_eq_eq_not, Bool.not_false, Bool.not_true, beq_iff_eq, beq_eq_false_iff_ne, ne_eq, decide_eq_decide] at *; omega)))) (by (first | omega | grind | (simp only [Bool.not_eq_eq_eq_not, Bool.not_false, Bool.not_true, beq_iff_eq, beq_eq_false_iff_ne, ne_eq, decide_eq_decide] at *; omega))) lo1.symm (by repeat (first | exact Ext.refl _ | refine Ext.alloc ?_ | refine Ext.drew ?_ | refine Ext.drewN ?_ | refine Ext.set ?_ (Ext.size ?_) | refine Ext.set ?_ (Ext.size1 ?_) | refine Ext.set ?_ (Ext.size2 ?_) | refine Ext.trans ?_ (by assumption)))))
    | (refine bodyPost_ret (v := .tuple #[.agg #[.int .i64 0, .int .u64 0], .int .i64 2]) (by simp [results, Tryz.results92, go_sem]) rfl
        (retT_no (fun h => by have := W1.1 h; (first | omega | grind | (simp only [Bool.not_eq_eq_eq_not, Bool.not_false, Bool.not_true, beq_iff_eq, beq_eq_false_iff_ne, ne_eq, decide_eq_decide] at *; omega))) (by repeat (first | exact Ext.refl _ | refine Ext.alloc ?_ | refine Ext.drew ?_ | refine Ext.drewN ?_ | refine Ext.set ?_ (Ext.size ?_) | refine Ext.set ?_ (Ext.size1 ?_) | refine Ext.set ?_ (Ext.size2 ?_) | refine Ext.trans ?_ (by assumption)))))

theorem W128_zero : W128 0 := by unfold W128; omega
theorem hi_zero : hi 0 = 0 := rfl
theorem lo_zero : lo 0 = 0 := rfl

set_option maxRecDepth 100000 in
set_option maxHeartbeats 1600000 in
theorem wneg (n : Int) (w : World) (hn : W128 n) :
    Calls Tryz.prog 67 #[.agg #[.int .i64 (hi n), .int .u64 (lo n)]] w (RetT w (-n)) := by
  have h0 := wsub 0 n
  rw [hi_zero, lo_zero] at h0
  have H0 := Lib.hid h0
  clear h0
  go_enter Tryz.func67, Tryz.ntmps67
  go_wp2_with fail
  refine (H0.out _ W128_zero hn).mono ?_
  rintro e w1 ⟨rfl, x1⟩
  obtain ⟨b1, b2⟩ := newB x1
  have q0 := b2.c0
  have q1 := b2.c1
  have q2 := b2.f0
  have q3 := b2.f1
  rw [Int.zero_sub]
  go_wp2_with fail
  refine bodyPost_ret (v := .tuple #[.agg #[.int .i64 (thi (-n)), .int .u64 (tlo (-n))], .int .i64 (ter (-n))]) (by simp [results, Tryz.results67, go_sem, q0, q1]) rfl ⟨rfl, ?_⟩
  exact (Ext.set (Ext.set (Ext.trans (Ext.refl w).alloc.alloc x1) (by omega)) (by omega))

set_option maxRecDepth 100000 in
set_option maxHeartbeats 1600000 in
theorem wcmp (m n : Int) (w : World) :
    Calls Tryz.prog 55 #[.agg #[.int .i64 (hi m), .int .u64 (lo m)], .agg #[.int .i64 (hi n), .int .u64 (lo n)]] w (fun e w' => e = .returned (.int .i64 (cmpI m n)) ∧ Ext w w') := by
  go_enter Tryz.func55, Tryz.ntmps55
  go_wp2
  all_goals
    have a := hi_lo m
    have b := hi_lo n
    have := lo_bd m
    have := lo_bd n
    first
    | (refine bodyPost_ret (v := .int .i64 0) (by simp [results, Tryz.results55, go_sem]) rfl ⟨by rw [cmpI_eq (by (first | omega | grind | (simp only [Bool.not_eq_eq_eq_not, Bool.not_false, Bool.not_true, beq_iff_eq, beq_eq_false_iff_ne, ne_eq, decide_eq_decide] at *; omega)))], (by repeat (first | exact Ext.refl _ | refine Ext.alloc ?_ | refine Ext.drew ?_ | refine Ext.drewN ?_ | refine Ext.set ?_ (Ext.size ?_) | refine Ext.set ?_ (Ext.size1 ?_) | refine Ext.set ?_ (Ext.size2 ?_) | refine Ext.trans ?_ (by assumption)))⟩)
    | (refine bodyPost_ret (v := .int .i64 (-1)) (by simp [results, Tryz.results55, go_sem]) rfl ⟨by rw [cmpI_lt (by (first | omega | grind | (simp only [Bool.not_eq_eq_eq_not, Bool.not_false, Bool.not_true, beq_iff_eq, beq_eq_false_iff_ne, ne_eq, decide_eq_decide] at *; omega)))], (by repeat (first | exact Ext.refl _ | refine Ext.alloc ?_ | refine Ext.drew ?_ | refine Ext.drewN ?_ | refine Ext.set ?_ (Ext.size ?_) | refine Ext.set ?_ (Ext.size1 ?_) | refine Ext.set ?_ (Ext.size2 ?_) | refine Ext.trans ?_ (by assumption)))⟩)
    | (refine bodyPost_ret (v := .int .i64 1) (by simp [results, Tryz.results55, go_sem]) rfl ⟨by rw [cmpI_gt (by (first | omega | grind | (simp only [Bool.not_eq_eq_eq_not, Bool.not_false, Bool.not_true, beq_iff_eq, beq_eq_false_iff_ne, ne_eq, decide_eq_decide] at *; omega)))], (by repeat (first | exact Ext.refl _ | refine Ext.alloc ?_ | refine Ext.drew ?_ | refine Ext.drewN ?_ | refine Ext.set ?_ (Ext.size ?_) | refine Ext.set ?_ (Ext.size1 ?_) | refine Ext.set ?_ (Ext.size2 ?_) | refine Ext.trans ?_ (by assumption)))⟩)

end Go.Proofs.YthoedmikfpbfnaaGreat

/-
  Wide numbers: Mul64, bare, parts, signed; wide.Sign, wide.Int, wide.Mul, wide.Times.
-/
set_option linter.unusedSimpArgs false
namespace Go.Proofs.YthoedmikfpbfnaaGreat
open Go Go.RowKit

set_option maxRecDepth 100000 in
set_option maxHeartbeats 1600000 in
theorem mul64_nat (x y : Nat) (hx : x < 18446744073709551616) (hy : y < 18446744073709551616) (w : World) :
    Calls Tryz.prog 60 #[.int .u64 x, .int .u64 y] w fun e w' => e = .returned (.tuple #[.int .u64 ((x * y / 18446744073709551616 : Nat) : Int), .int .u64 ((x * y % 18446744073709551616 : Nat) : Int)]) ∧ w' = w := by
  obtain ⟨bd, bt, bw, hhi⟩ := Lib.mul64_hi x y hx hy
  have ba := Lib.half_mul_le (a := x / 4294967296) (b := y / 4294967296) (by omega) (by omega)
  have bb := Lib.half_mul_le (a := x / 4294967296) (b := y % 4294967296) (by omega) (by omega)
  have bc := Lib.half_mul_le (a := x % 4294967296) (b := y / 4294967296) (by omega) (by omega)
  have ba' : x / 4294967296 * (y / 4294967296) < 18446744073709551616 := by omega
  have bb' : x / 4294967296 * (y % 4294967296) < 18446744073709551616 := by omega
  have bc' : x % 4294967296 * (y / 4294967296) < 18446744073709551616 := by omega
  have bh1 : x / 4294967296 * (y / 4294967296) + (x / 4294967296 * (y % 4294967296) + x % 4294967296 * (y % 4294967296) / 4294967296) / 4294967296 < 18446744073709551616 := by omega
  have bh : x / 4294967296 * (y / 4294967296) + (x / 4294967296 * (y % 4294967296) + x % 4294967296 * (y % 4294967296) / 4294967296) / 4294967296 + ((x / 4294967296 * (y % 4294967296) + x % 4294967296 * (y % 4294967296) / 4294967296) % 4294967296 + x % 4294967296 * (y / 4294967296)) / 4294967296 < 18446744073709551616 := by omega
  go_enter Tryz.func60, Tryz.ntmps60
  go_wp2
  simp only [Mul64.maskN x hx, Mul64.maskN y hy, Mul64.divN, Mul64.mulN, Mul64.addN, Mul64.wrapN _ bd, Mul64.wrapN _ bb', Mul64.wrapN _ bt, Mul64.maskN _ bt, Mul64.wrapN _ bc', Mul64.wrapN _ bw, Mul64.wrapN _ ba', Mul64.wrapN _ bh1, Mul64.wrapN _ bh, Mul64.wrapM (x * y)]
  rw [hhi]
  go_ret2
  exact ⟨rfl, rfl⟩

theorem mul64 (x y : Int) (hx : 0 ≤ x) (hx1 : x < 18446744073709551616) (hy : 0 ≤ y) (hy1 : y < 18446744073709551616) (w : World) :
    Calls Tryz.prog 60 #[.int .u64 x, .int .u64 y] w fun e w' => e = .returned (.tuple #[.int .u64 (hi (x * y)), .int .u64 (lo (x * y))]) ∧ w' = w := by
  obtain ⟨X, rfl⟩ := Int.eq_ofNat_of_zero_le hx
  obtain ⟨Y, rfl⟩ := Int.eq_ofNat_of_zero_le hy
  have h := mul64_nat X Y (by omega) (by omega) w
  have e1 : ((X * Y / 18446744073709551616 : Nat) : Int) = hi ((X : Int) * Y) := by unfold hi; rw [← Int.natCast_mul]; omega
  have e2 : ((X * Y % 18446744073709551616 : Nat) : Int) = lo ((X : Int) * Y) := by unfold lo; rw [← Int.natCast_mul]; omega
  rw [e1, e2] at h
  exact h

/-- A number's size. -/
def mag (n : Int) : Int := if n < 0 then -n else n
theorem mag_neg {n : Int} (h : n < 0) : mag n = -n := if_pos h
theorem mag_pos {n : Int} (h : 0 ≤ n) : mag n = n := if_neg (by omega)
theorem mag_bd {n : Int} (h : -9223372036854775808 ≤ n) (h' : n ≤ 9223372036854775807) : 0 ≤ mag n ∧ mag n ≤ 9223372036854775808 := by unfold mag; split <;> omega
theorem mag_W {n : Int} (h : W128 n) : 0 ≤ mag n ∧ mag n ≤ 170141183460469231731687303715884105728 := by unfold W128 at h; unfold mag; split <;> omega

set_option maxRecDepth 100000 in
set_option maxHeartbeats 1600000 in
theorem bare_any (n : Int) (w : World) (h0 : -9223372036854775808 ≤ n) (h1 : n ≤ 9223372036854775807) :
    Calls Tryz.prog 61 #[.int .i64 n] w fun e w' => e = .returned (.int .u64 (mag n)) ∧ w' = w := by
  go_enter Tryz.func61, Tryz.ntmps61
  go_wp2
  · have e2 : IntKind.u64.wrap (-IntKind.u64.wrap n) = -n := by rw [u64_eq, u64_eq]; omega
    rw [mag_neg (n := n) (by assumption)]
    refine bodyPost_ret (v := .int .u64 (-n)) (by simp [results, Tryz.results61, go_sem, e2]) rfl ⟨rfl, rfl⟩
  · have e2 : IntKind.u64.wrap n = n := by rw [u64_eq]; omega
    rw [mag_pos (n := n) (by omega)]
    try simp only [e2]
    refine bodyPost_ret (v := .int .u64 n) (by simp [results, Tryz.results61, go_sem]) rfl ⟨rfl, rfl⟩

/-- With a sign. -/
def wsg (neg : Bool) (n : Int) : Int := if neg then -n else n
theorem wsg_t (n : Int) : wsg true n = -n := rfl
theorem wsg_f (n : Int) : wsg false n = n := rfl

set_option maxRecDepth 100000 in
set_option maxHeartbeats 1600000 in
theorem signed_any (neg : Bool) (h l : Int) (w : World) (h0 : 0 ≤ h) (h1 : h < 18446744073709551616) (l0 : 0 ≤ l) (l1 : l < 18446744073709551616) :
    Calls Tryz.prog 62 #[.bool neg, .int .u64 h, .int .u64 l] w (RetT w (wsg neg (h * 18446744073709551616 + l))) := by
  have r102 := run_sub64'
  have c0 : 0 ≤ bor 0 l 0 := by rw [bor_def]; omega
  have c1 : bor 0 l 0 ≤ 1 := by rw [bor_def]; omega
  cases neg
  · go_enter Tryz.func62, Tryz.ntmps62
    go_wp2
    all_goals
      clear r102
      first
      | (refine bodyPost_ret (v := .tuple #[.agg #[.int .i64 (wrap64 h), .int .u64 (l)], .int .i64 0]) ?_ rfl (retT_yes ?_ ?_ ?_ (by repeat (first | exact Ext.refl _ | refine Ext.alloc ?_ | refine Ext.drew ?_ | refine Ext.drewN ?_ | refine Ext.set ?_ (Ext.size ?_) | refine Ext.set ?_ (Ext.size1 ?_) | refine Ext.set ?_ (Ext.size2 ?_) | refine Ext.trans ?_ (by assumption)))); (simp [results, Tryz.results62, go_sem]); all_goals (simp only [wsg_t, wsg_f, W128, hi, lo, wrap64, bor_def, Bool.not_eq_eq_eq_not, Bool.not_false, Bool.not_true, decide_eq_true_eq, decide_eq_false_iff_not] at *; omega))
      | (refine bodyPost_ret (v := .tuple #[.agg #[.int .i64 (0), .int .u64 (l)], .int .i64 0]) ?_ rfl (retT_yes ?_ ?_ ?_ (by repeat (first | exact Ext.refl _ | refine Ext.alloc ?_ | refine Ext.drew ?_ | refine Ext.drewN ?_ | refine Ext.set ?_ (Ext.size ?_) | refine Ext.set ?_ (Ext.size1 ?_) | refine Ext.set ?_ (Ext.size2 ?_) | refine Ext.trans ?_ (by assumption)))); (simp [results, Tryz.results62, go_sem]); all_goals (simp only [wsg_t, wsg_f, W128, hi, lo, wrap64, bor_def, Bool.not_eq_eq_eq_not, Bool.not_false, Bool.not_true, decide_eq_true_eq, decide_eq_false_iff_not] at *; omega))
      | (refine bodyPost_ret (v := .tuple #[.agg #[.int .i64 (wrap64 h), .int .u64 (0)], .int .i64 0]) ?_ rfl (retT_yes ?_ ?_ ?_ (by repeat (first | exact Ext.refl _ | refine Ext.alloc ?_ | refine Ext.drew ?_ | refine Ext.drewN ?_ | refine Ext.set ?_ (Ext.size ?_) | refine Ext.set ?_ (Ext.size1 ?_) | refine Ext.set ?_ (Ext.size2 ?_) | refine Ext.trans ?_ (by assumption)))); (simp [results, Tryz.results62, go_sem]); all_goals (simp only [wsg_t, wsg_f, W128, hi, lo, wrap64, bor_def, Bool.not_eq_eq_eq_not, Bool.not_false, Bool.not_true, decide_eq_true_eq, decide_eq_false_iff_not] at *; omega))
      | (refine bodyPost_ret (v := .tuple #[.agg #[.int .i64 (0), .int .u64 (0)], .int .i64 0]) ?_ rfl (retT_yes ?_ ?_ ?_ (by repeat (first | exact Ext.refl _ | refine Ext.alloc ?_ | refine Ext.drew ?_ | refine Ext.drewN ?_ | refine Ext.set ?_ (Ext.size ?_) | refine Ext.set ?_ (Ext.size1 ?_) | refine Ext.set ?_ (Ext.size2 ?_) | refine Ext.trans ?_ (by assumption)))); (simp [results, Tryz.results62, go_sem]); all_goals (simp only [wsg_t, wsg_f, W128, hi, lo, wrap64, bor_def, Bool.not_eq_eq_eq_not, Bool.not_false, Bool.not_true, decide_eq_true_eq, decide_eq_false_iff_not] at *; omega))
      | (refine bodyPost_ret (v := .tuple #[.agg #[.int .i64 0, .int .u64 0], .int .i64 2]) ?_ rfl (retT_no ?_ (by repeat (first | exact Ext.refl _ | refine Ext.alloc ?_ | refine Ext.drew ?_ | refine Ext.drewN ?_ | refine Ext.set ?_ (Ext.size ?_) | refine Ext.set ?_ (Ext.size1 ?_) | refine Ext.set ?_ (Ext.size2 ?_) | refine Ext.trans ?_ (by assumption)))); (simp [results, Tryz.results62, go_sem]); all_goals (simp only [wsg_t, wsg_f, W128, hi, lo, wrap64, bor_def, Bool.not_eq_eq_eq_not, Bool.not_false, Bool.not_true, decide_eq_true_eq, decide_eq_false_iff_not] at *; omega))
  · go_enter Tryz.func62, Tryz.ntmps62
    go_wp2
    all_goals
      clear r102
      first
      | (refine bodyPost_ret (v := .tuple #[.agg #[.int .i64 (wrap64 ((-h - bor 0 l 0) % 18446744073709551616)), .int .u64 (-l % 18446744073709551616)], .int .i64 0]) ?_ rfl (retT_yes ?_ ?_ ?_ (by repeat (first | exact Ext.refl _ | refine Ext.alloc ?_ | refine Ext.drew ?_ | refine Ext.drewN ?_ | refine Ext.set ?_ (Ext.size ?_) | refine Ext.set ?_ (Ext.size1 ?_) | refine Ext.set ?_ (Ext.size2 ?_) | refine Ext.trans ?_ (by assumption)))); (simp [results, Tryz.results62, go_sem]); all_goals (simp only [wsg_t, wsg_f, W128, hi, lo, wrap64, bor_def, Bool.not_eq_eq_eq_not, Bool.not_false, Bool.not_true, decide_eq_true_eq, decide_eq_false_iff_not] at *; omega))
      | (refine bodyPost_ret (v := .tuple #[.agg #[.int .i64 (0), .int .u64 (-l % 18446744073709551616)], .int .i64 0]) ?_ rfl (retT_yes ?_ ?_ ?_ (by repeat (first | exact Ext.refl _ | refine Ext.alloc ?_ | refine Ext.drew ?_ | refine Ext.drewN ?_ | refine Ext.set ?_ (Ext.size ?_) | refine Ext.set ?_ (Ext.size1 ?_) | refine Ext.set ?_ (Ext.size2 ?_) | refine Ext.trans ?_ (by assumption)))); (simp [results, Tryz.results62, go_sem]); all_goals (simp only [wsg_t, wsg_f, W128, hi, lo, wrap64, bor_def, Bool.not_eq_eq_eq_not, Bool.not_false, Bool.not_true, decide_eq_true_eq, decide_eq_false_iff_not] at *; omega))
      | (refine bodyPost_ret (v := .tuple #[.agg #[.int .i64 (wrap64 ((-h - bor 0 l 0) % 18446744073709551616)), .int .u64 (0)], .int .i64 0]) ?_ rfl (retT_yes ?_ ?_ ?_ (by repeat (first | exact Ext.refl _ | refine Ext.alloc ?_ | refine Ext.drew ?_ | refine Ext.drewN ?_ | refine Ext.set ?_ (Ext.size ?_) | refine Ext.set ?_ (Ext.size1 ?_) | refine Ext.set ?_ (Ext.size2 ?_) | refine Ext.trans ?_ (by assumption)))); (simp [results, Tryz.results62, go_sem]); all_goals (simp only [wsg_t, wsg_f, W128, hi, lo, wrap64, bor_def, Bool.not_eq_eq_eq_not, Bool.not_false, Bool.not_true, decide_eq_true_eq, decide_eq_false_iff_not] at *; omega))
      | (refine bodyPost_ret (v := .tuple #[.agg #[.int .i64 (0), .int .u64 (0)], .int .i64 0]) ?_ rfl (retT_yes ?_ ?_ ?_ (by repeat (first | exact Ext.refl _ | refine Ext.alloc ?_ | refine Ext.drew ?_ | refine Ext.drewN ?_ | refine Ext.set ?_ (Ext.size ?_) | refine Ext.set ?_ (Ext.size1 ?_) | refine Ext.set ?_ (Ext.size2 ?_) | refine Ext.trans ?_ (by assumption)))); (simp [results, Tryz.results62, go_sem]); all_goals (simp only [wsg_t, wsg_f, W128, hi, lo, wrap64, bor_def, Bool.not_eq_eq_eq_not, Bool.not_false, Bool.not_true, decide_eq_true_eq, decide_eq_false_iff_not] at *; omega))
      | (refine bodyPost_ret (v := .tuple #[.agg #[.int .i64 0, .int .u64 0], .int .i64 2]) ?_ rfl (retT_no ?_ (by repeat (first | exact Ext.refl _ | refine Ext.alloc ?_ | refine Ext.drew ?_ | refine Ext.drewN ?_ | refine Ext.set ?_ (Ext.size ?_) | refine Ext.set ?_ (Ext.size1 ?_) | refine Ext.set ?_ (Ext.size2 ?_) | refine Ext.trans ?_ (by assumption)))); (simp [results, Tryz.results62, go_sem]); all_goals (simp only [wsg_t, wsg_f, W128, hi, lo, wrap64, bor_def, Bool.not_eq_eq_eq_not, Bool.not_false, Bool.not_true, decide_eq_true_eq, decide_eq_false_iff_not] at *; omega))

set_option maxRecDepth 100000 in
set_option maxHeartbeats 1600000 in
theorem parts_any (n : Int) (w : World) (hn : W128 n) :
    Calls Tryz.prog 101 #[.agg #[.int .i64 (hi n), .int .u64 (lo n)]] w (fun e w' => e = .returned (.tuple #[.int .u64 (hi (mag n)), .int .u64 (lo (mag n)), .bool (decide (n < 0))]) ∧ Ext w w') := by
  have r102 := run_sub64'
  obtain ⟨a0, a1⟩ := lo_bd n
  obtain ⟨a2, a3⟩ := hi_bd hn
  have c0 : 0 ≤ bor 0 (lo n) 0 := by rw [bor_def]; omega
  have c1 : bor 0 (lo n) 0 ≤ 1 := by rw [bor_def]; omega
  have u1 := u64_nonneg (hi n)
  have u2 := u64_lt (hi n)
  go_enter Tryz.func101, Tryz.ntmps101
  go_wp2
  · clear r102
    go_quiet (fail)
    go_wp2
    have e3 : n < 0 ↔ hi n < 0 := (hi_neg n).symm
    have e4 : decide (n < 0) = false := decide_eq_false (by omega)
    rw [mag_pos (n := n) (by omega), e4]
    refine bodyPost_ret (v := .tuple #[.int .u64 (hi n), .int .u64 (lo n), .bool false]) (by simp [results, Tryz.results101, go_sem]) rfl ⟨rfl, (by repeat (first | exact Ext.refl _ | refine Ext.alloc ?_ | refine Ext.drew ?_ | refine Ext.drewN ?_ | refine Ext.set ?_ (Ext.size ?_) | refine Ext.set ?_ (Ext.size1 ?_) | refine Ext.set ?_ (Ext.size2 ?_) | refine Ext.trans ?_ (by assumption)))⟩
  · clear r102
    have e3 : n < 0 ↔ hi n < 0 := (hi_neg n).symm
    have e4 : decide (n < 0) = true := decide_eq_true (by omega)
    rw [mag_neg (n := n) (by omega), e4]
    have e5 : (-IntKind.u64.wrap (hi n) - bor 0 (lo n) 0) % 18446744073709551616 = hi (-n) := by rw [u64_eq, bor_def]; unfold W128 at hn; unfold hi lo; omega
    have e6 : -lo n % 18446744073709551616 = lo (-n) := by unfold lo; omega
    refine bodyPost_ret (v := .tuple #[.int .u64 (hi (-n)), .int .u64 (lo (-n)), .bool true]) (by simp [results, Tryz.results101, go_sem, e5, e6]) rfl ⟨rfl, (by repeat (first | exact Ext.refl _ | refine Ext.alloc ?_ | refine Ext.drew ?_ | refine Ext.drewN ?_ | refine Ext.set ?_ (Ext.size ?_) | refine Ext.set ?_ (Ext.size1 ?_) | refine Ext.set ?_ (Ext.size2 ?_) | refine Ext.trans ?_ (by assumption)))⟩

set_option maxRecDepth 100000 in
set_option maxHeartbeats 1600000 in
theorem wsign (n : Int) (w : World) :
    Calls Tryz.prog 16 #[.agg #[.int .i64 (hi n), .int .u64 (lo n)]] w (fun e w' => e = .returned (.int .i64 (cmpI n 0)) ∧ Ext w w') := by
  have h0 := wcmp n 0
  rw [hi_zero, lo_zero] at h0
  have H0 := Lib.hid h0
  clear h0
  go_enter Tryz.func16, Tryz.ntmps16
  go_wp2_with fail
  refine (H0.out _).mono ?_
  rintro e w1 ⟨rfl, x1⟩
  go_wp2_with fail
  refine bodyPost_ret (v := .int .i64 (cmpI n 0)) (by simp [results, Tryz.results16, go_sem]) rfl ⟨rfl, ?_⟩
  exact Ext.trans (Ext.refl w).alloc x1

end Go.Proofs.YthoedmikfpbfnaaGreat

/-
  Wide numbers: wide.Int, wide.Mul, wide.Times.
-/
namespace Go.Proofs.YthoedmikfpbfnaaGreat
open Go Go.RowKit

def I64 (n : Int) : Prop := -9223372036854775808 ≤ n ∧ n ≤ 9223372036854775807
instance (n : Int) : Decidable (I64 n) := by unfold I64; infer_instance
def t64 (n : Int) : Int := if I64 n then n else 0
theorem wrap64_bd (n : Int) : -9223372036854775808 ≤ wrap64 n ∧ wrap64 n ≤ 9223372036854775807 := by unfold wrap64; omega
theorem int_yes {n : Int} (h : hi (wrap64 (lo n)) = hi n) (h' : lo (wrap64 (lo n)) = lo n) : I64 n ∧ wrap64 (lo n) = n := by
  have e := wide_eq.1 ⟨h, h'⟩
  have := wrap64_bd (lo n)
  rw [e] at this
  exact ⟨this, e⟩
theorem int_no {n : Int} (h : ¬ (hi (wrap64 (lo n)) = hi n ∧ lo (wrap64 (lo n)) = lo n)) : ¬ I64 n := by
  intro hi'
  apply h
  have e : wrap64 (lo n) = n := by unfold I64 at hi'; unfold wrap64 lo; omega
  rw [e]; exact ⟨rfl, rfl⟩

set_option maxRecDepth 100000 in
set_option maxHeartbeats 1600000 in
theorem wint (n : Int) (w : World) :
    Calls Tryz.prog 50 #[.agg #[.int .i64 (hi n), .int .u64 (lo n)]] w (fun e w' => e = .returned (.tuple #[.int .i64 (t64 n), .bool (decide (I64 n))]) ∧ Ext w w') := by
  obtain ⟨l0, l1⟩ := lo_bd n
  obtain ⟨b0, b1⟩ := wrap64_bd (lo n)
  have hA : Box2 (w.alloc (.cells #[.int .i64 (hi n), .int .u64 (lo n)] 42)) w.heap.size (.int .i64 (hi n)) (.int .u64 (lo n)) 42 := Box2.new rfl
  have hl : lo (wrap64 (lo n)) = lo n := by unfold wrap64 lo; omega
  have g2 : (lo (wrap64 (lo n)) == lo n) = true := by simpa using hl
  by_cases h1 : hi (wrap64 (lo n)) = hi n
  · have g1 : (hi (wrap64 (lo n)) == hi n) = true := by simpa using h1
    obtain ⟨i1, i2⟩ := int_yes h1 hl
    have H1 := Lib.hid i2
    clear hl h1 i2
    go_enter Tryz.func50, Tryz.ntmps50
    go_wp2_with fail
    go_region_held3 (fun w' => w'.cell? ⟨w.heap.size, 0, none⟩ = some (.int .i64 (hi n)) ∧ w'.cell? ⟨w.heap.size, 1, none⟩ = some (.int .u64 (lo n)))
      (first
        | exact ⟨(hA.drew.ext x1).c0, (hA.drew.ext x1).c1⟩
        | exact ⟨hA.drew.c0, hA.drew.c1⟩)
      (first
        | (go_at_call 30; refine (of_pure _ _ b0 b1).mono ?_; rintro e w1 ⟨rfl, x1⟩))
    go_wp2
    rw [show t64 n = n from if_pos i1, decide_eq_true i1]
    refine bodyPost_ret (v := .tuple #[.int .i64 (wrap64 (lo n)), .bool true]) (by simp [results, Tryz.results50, go_sem]) rfl ⟨by rw [H1.out], Ext.trans (Ext.refl w).alloc.drew x1⟩
  · have g1 : (hi (wrap64 (lo n)) == hi n) = false := by simpa using h1
    have i1 := int_no (n := n) (fun h => h1 h.1)
    clear hl h1
    go_enter Tryz.func50, Tryz.ntmps50
    go_wp2_with fail
    go_region_held3 (fun w' => w'.cell? ⟨w.heap.size, 0, none⟩ = some (.int .i64 (hi n)) ∧ w'.cell? ⟨w.heap.size, 1, none⟩ = some (.int .u64 (lo n)))
      (first
        | exact ⟨(hA.drew.ext x1).c0, (hA.drew.ext x1).c1⟩
        | exact ⟨hA.drew.c0, hA.drew.c1⟩)
      (first
        | (go_at_call 30; refine (of_pure _ _ b0 b1).mono ?_; rintro e w1 ⟨rfl, x1⟩))
    go_wp2
    rw [show t64 n = 0 from if_neg i1, decide_eq_false i1]
    refine bodyPost_ret (v := .tuple #[.int .i64 0, .bool false]) (by simp [results, Tryz.results50, go_sem]) rfl ⟨rfl, Ext.trans (Ext.refl w).alloc.drew x1⟩

theorem mag_mul (m n : Int) : wsg (!(decide (m < 0) == decide (n < 0))) (mag m * mag n) = m * n := by
  by_cases a : m < 0 <;> by_cases b : n < 0
  · simp [a, b, mag_neg, wsg_f]; grind
  · simp [a, b, mag_neg a, mag_pos (Int.not_lt.1 b), wsg_t]; grind
  · simp [a, b, mag_neg b, mag_pos (Int.not_lt.1 a), wsg_t]; grind
  · simp [a, b, mag_pos (Int.not_lt.1 a), mag_pos (Int.not_lt.1 b), wsg_f]
theorem mag_of_mul (m n : Int) : mag (m * n) = mag m * mag n := by
  have h1 := mag_mul m n
  have h2 : 0 ≤ mag m * mag n := Int.mul_nonneg (by unfold mag; split <;> omega) (by unfold mag; split <;> omega)
  rw [← h1]
  generalize mag m * mag n = p at *
  generalize (!(decide (m < 0) == decide (n < 0))) = b
  cases b
  · exact mag_pos h2
  · rw [wsg_t]; unfold mag; split <;> omega
theorem mul_room {m n : Int} (hm : I64 m) (hn : I64 n) : 0 ≤ mag m * mag n ∧ mag m * mag n ≤ 85070591730234615865843651857942052864 := by
  obtain ⟨p0, p1⟩ := mag_bd hm.1 hm.2
  obtain ⟨q0, q1⟩ := mag_bd hn.1 hn.2
  exact ⟨Int.mul_nonneg p0 q0, Int.le_trans (Int.mul_le_mul p1 q1 q0 (by omega)) (by decide)⟩
theorem mag_le (n : Int) : -mag n ≤ n ∧ n ≤ mag n := by unfold mag; split <;> omega
theorem mul_W {m n : Int} (hm : I64 m) (hn : I64 n) : W128 (m * n) := by
  have h := mul_room hm hn
  rw [← mag_of_mul] at h
  have := mag_le (m * n)
  unfold W128; omega

set_option maxRecDepth 100000 in
set_option maxHeartbeats 1600000 in
theorem wmul (m n : Int) (w : World) (hm : I64 m) (hn : I64 n) :
    Calls Tryz.prog 23 #[.int .i64 m, .int .i64 n] w (fun e w' => e = .returned (.agg #[.int .i64 (hi (m * n)), .int .u64 (lo (m * n))]) ∧ Ext w w') := by
  obtain ⟨P0, P1⟩ := mul_room hm hn
  have hW := mul_W hm hn
  have hS := Lib.hid (mag_mul m n)
  obtain ⟨m0, m1⟩ := hm
  obtain ⟨n0, n1⟩ := hn
  obtain ⟨p0, p1⟩ := mag_bd m0 m1
  obtain ⟨q0, q1⟩ := mag_bd n0 n1
  obtain ⟨l0, l1⟩ := lo_bd (mag m * mag n)
  have h0 : 0 ≤ hi (mag m * mag n) := by unfold hi; omega
  have h1 : hi (mag m * mag n) < 18446744073709551616 := by unfold hi; omega
  have H1 := Lib.hid bare_any
  have H2 := Lib.hid mul64
  have H3 := Lib.hid signed_any
  go_enter Tryz.func23, Tryz.ntmps23
  go_wp2_with fail
  refine (H1.out _ _ m0 m1).mono ?_
  rintro e w1 ⟨rfl, rfl⟩
  go_wp2_with fail
  refine (H1.out _ _ n0 n1).mono ?_
  rintro e w1 ⟨rfl, rfl⟩
  go_wp2_with fail
  refine (H2.out _ _ (by omega) (by omega) (by omega) (by omega) _).mono ?_
  rintro e w1 ⟨rfl, rfl⟩
  go_wp2_with fail
  refine (H3.out _ _ _ _ h0 h1 l0 l1).mono ?_
  rw [← hi_lo, hS.out]
  rintro e w1 ⟨rfl, x1⟩
  rw [thi_yes hW, tlo_yes hW, ter_yes hW]
  have b2 := (newA x1).alloc (.cells #[.int .i64 (hi (m * n)), .int .u64 (lo (m * n))] 42)
  have q0 := b2.c0
  have q1 := b2.c1
  have q2 := b2.f0
  have q3 := b2.f1
  have z1 := Ext.size x1
  simp only [World.size_alloc] at z1
  go_wp2_with fail
  refine bodyPost_ret (v := .agg #[.int .i64 (hi (m * n)), .int .u64 (lo (m * n))]) (by simp [results, Tryz.results23, go_sem, q0, q1]) rfl ⟨rfl, (by repeat (first | exact Ext.refl _ | refine Ext.alloc ?_ | refine Ext.drew ?_ | refine Ext.drewN ?_ | refine Ext.set ?_ (Ext.size ?_) | refine Ext.set ?_ (Ext.size1 ?_) | refine Ext.set ?_ (Ext.size2 ?_) | refine Ext.trans ?_ (by assumption)))⟩

set_option maxRecDepth 100000 in
set_option maxHeartbeats 1600000 in
theorem wtimes (v n : Int) (w : World) (hv : W128 v) (hn : I64 n) :
    Calls Tryz.prog 43 #[.agg #[.int .i64 (hi v), .int .u64 (lo v)], .int .i64 n] w (RetT w (v * n)) := by
  have hS := Lib.hid (mag_mul v n)
  have hM := Lib.hid (mag_of_mul v n)
  have hL := mag_le (v * n)
  obtain ⟨v0, v1⟩ := mag_W hv
  obtain ⟨n0, n1⟩ := hn
  obtain ⟨b0, b1⟩ := mag_bd n0 n1
  obtain ⟨al0, al1⟩ := lo_bd (mag v)
  have ah0 : 0 ≤ hi (mag v) := by unfold hi; omega
  have ah1 : hi (mag v) ≤ 9223372036854775808 := by unfold hi; omega
  have eP : mag v * mag n = hi (mag v) * mag n * 18446744073709551616 + lo (mag v) * mag n := by
    have := hi_lo (mag v)
    grind
  have X0 : 0 ≤ hi (mag v) * mag n := Int.mul_nonneg ah0 b0
  have X1 : hi (mag v) * mag n ≤ 85070591730234615865843651857942052864 := Int.le_trans (Int.mul_le_mul ah1 b1 b0 (by omega)) (by decide)
  have Y0 : 0 ≤ lo (mag v) * mag n := Int.mul_nonneg al0 b0
  have Y1 : lo (mag v) * mag n ≤ 170141183460469231731687303715884105728 := Int.le_trans (Int.mul_le_mul (Int.le_of_lt al1) b1 b0 (by omega)) (by decide)
  have eX := hi_lo (hi (mag v) * mag n)
  have eY := hi_lo (lo (mag v) * mag n)
  obtain ⟨xl0, xl1⟩ := lo_bd (hi (mag v) * mag n)
  obtain ⟨yl0, yl1⟩ := lo_bd (lo (mag v) * mag n)
  have xh0 : 0 ≤ hi (hi (mag v) * mag n) := by unfold hi; unfold hi at X0; omega
  have xh1 : hi (hi (mag v) * mag n) ≤ 4611686018427387904 := by unfold hi; unfold hi at X1; omega
  have yh0 : 0 ≤ hi (lo (mag v) * mag n) := by unfold hi; omega
  have yh1 : hi (lo (mag v) * mag n) ≤ 9223372036854775808 := by unfold hi; omega
  have H1 := Lib.hid bare_any
  have H2 := Lib.hid mul64
  have H3 := Lib.hid signed_any
  have H4 := Lib.hid parts_any
  have EP := Lib.hid eP
  have EX := Lib.hid eX
  have EY := Lib.hid eY
  clear eP eX eY
  have r98 := run_add64'
  have c0 : 0 ≤ (lo (hi (mag v) * mag n) + hi (lo (mag v) * mag n)) / 18446744073709551616 := by omega
  have c1 : (lo (hi (mag v) * mag n) + hi (lo (mag v) * mag n)) / 18446744073709551616 ≤ 1 := by omega
  go_enter Tryz.func43, Tryz.ntmps43
  go_wp2_with fail
  refine (H4.out _ _ hv).mono ?_
  rintro e w1 ⟨rfl, x1⟩
  go_wp2_with fail
  refine (H1.out _ _ n0 n1).mono ?_
  rintro e w2 ⟨rfl, rfl⟩
  go_wp2_with fail
  refine (H2.out _ _ (by omega) (by omega) (by omega) (by omega) _).mono ?_
  rintro e w3 ⟨rfl, rfl⟩
  go_wp2_with fail
  refine (H2.out _ _ (by omega) (by omega) (by omega) (by omega) _).mono ?_
  rintro e w4 ⟨rfl, rfl⟩
  have b2 := newB x1
  have q0 := b2.2.c0
  have q1 := b2.2.c1
  have q2 := b2.2.f0
  have q3 := b2.2.f1
  go_wp2_with fail
  · clear r98 H1 H2 H3 H4
    have e1 := EP.out
    have e2 := EX.out
    have e3 := EY.out
    have e4 := hM.out
    refine bodyPost_ret (v := .tuple #[.agg #[.int .i64 0, .int .u64 0], .int .i64 2]) (by simp [results, Tryz.results43, go_sem, q0, q1]) rfl (retT_no (fun h => ?_) (by repeat (first | exact Ext.refl _ | refine Ext.alloc ?_ | refine Ext.drew ?_ | refine Ext.drewN ?_ | refine Ext.set ?_ (Ext.size ?_) | refine Ext.set ?_ (Ext.size1 ?_) | refine Ext.set ?_ (Ext.size2 ?_) | refine Ext.trans ?_ (by assumption))))
    have := mag_W h
    omega
  · have e0 : (lo (hi (mag v) * mag n) + hi (lo (mag v) * mag n)) % 18446744073709551616 * 18446744073709551616 + lo (lo (mag v) * mag n) = mag v * mag n := by
      have e1 := EP.out
      have e2 := EX.out
      have e3 := EY.out
      omega
    refine (H3.out _ _ _ _ (by omega) (by omega) yl0 yl1).mono ?_
    rw [e0, hS.out]
    rintro e w5 ⟨rfl, x2⟩
    have b3 := b2.2.ext x2
    have q0 := b3.c0
    have q1 := b3.c1
    have q2 := b3.f0
    have q3 := b3.f1
    have z1 := Ext.size x1
    have z2 := Ext.size x2
    simp only [World.size_alloc] at z1
    go_wp2_with fail
    refine bodyPost_ret (v := .tuple #[.agg #[.int .i64 (thi (v * n)), .int .u64 (tlo (v * n))], .int .i64 (ter (v * n))]) (by simp [results, Tryz.results43, go_sem, q0, q1]) rfl ⟨rfl, (by repeat (first | exact Ext.refl _ | refine Ext.alloc ?_ | refine Ext.drew ?_ | refine Ext.drewN ?_ | refine Ext.set ?_ (Ext.size ?_) | refine Ext.set ?_ (Ext.size1 ?_) | refine Ext.set ?_ (Ext.size2 ?_) | refine Ext.trans ?_ (by assumption)))⟩

end Go.Proofs.YthoedmikfpbfnaaGreat

/-
  bits.Len64, bits.LeadingZeros64.
-/
namespace Go.Proofs.YthoedmikfpbfnaaGreat
open Go Go.RowKit

theorem tab_size : (Lib.len8tab.size : Int) = 256 := by
  have : Lib.len8tab.size = 256 := by decide +kernel
  omega
theorem wadd_k (k a b : Nat) (hk : k ≤ 56) (ha : a ≤ 8) (hb : b = k + a) : wrap64 ((k : Int) + wrap64 (a : Int)) = (b : Int) := by unfold wrap64; omega
theorem wwrap_k (a : Nat) (ha : a ≤ 8) : wrap64 (wrap64 (a : Int)) = (a : Int) := by unfold wrap64; omega
theorem wone_k (a : Nat) (ha : a ≤ 8) : wrap64 (a : Int) = (a : Int) := by unfold wrap64; omega
theorem tab_get (y : Int) (h : y.toNat < Lib.len8tab.size) : ((Lib.len8tab[y.toNat]'h).toNat : Int) = Lib.len8 y := by
  unfold Lib.len8
  rw [getElem?_pos Lib.len8tab y.toNat h]
  rfl

set_option maxRecDepth 100000 in
set_option maxHeartbeats 8000000 in
theorem len64 (x : Int) (w : World) (h0 : 0 ≤ x) (h1 : x ≤ 18446744073709551615) :
    Calls Tryz.prog 167 #[.int .u64 x] w fun e w' => e = .returned (.int .i64 (Lib.bitLen x.toNat)) ∧ w' = w := by
  have hs := tab_size
  go_enter Tryz.func167, Tryz.ntmps167
  go_wp2
  all_goals (go_ret; refine ⟨congrArg Ending.returned (congrArg (Value.int IntKind.i64) ?_), rfl⟩)
  all_goals first
    | (rw [tab_get (x / 4294967296 / 65536 / 256) _, Lib.len8_of (x / 4294967296 / 65536 / 256) (by omega) (by omega)]
       have e : (x / 4294967296 / 65536 / 256).toNat = x.toNat / 72057594037927936 := by omega
       have l := Lib.bitLen_le8' (x / 4294967296 / 65536 / 256) (by omega) (by omega)
       have s := Lib.bitLen_shift56 x.toNat (by omega) (by omega)
       rw [e] at l ⊢
       exact wadd_k 56 _ _ (by decide) l s)
    | (rw [tab_get (x / 4294967296 / 65536) _, Lib.len8_of (x / 4294967296 / 65536) (by omega) (by omega)]
       have e : (x / 4294967296 / 65536).toNat = x.toNat / 281474976710656 := by omega
       have l := Lib.bitLen_le8' (x / 4294967296 / 65536) (by omega) (by omega)
       have s := Lib.bitLen_shift48 x.toNat (by omega) (by omega)
       rw [e] at l ⊢
       exact wadd_k 48 _ _ (by decide) l s)
    | (rw [tab_get (x / 4294967296 / 256) _, Lib.len8_of (x / 4294967296 / 256) (by omega) (by omega)]
       have e : (x / 4294967296 / 256).toNat = x.toNat / 1099511627776 := by omega
       have l := Lib.bitLen_le8' (x / 4294967296 / 256) (by omega) (by omega)
       have s := Lib.bitLen_shift40 x.toNat (by omega) (by omega)
       rw [e] at l ⊢
       exact wadd_k 40 _ _ (by decide) l s)
    | (rw [tab_get (x / 4294967296) _, Lib.len8_of (x / 4294967296) (by omega) (by omega)]
       have e : (x / 4294967296).toNat = x.toNat / 4294967296 := by omega
       have l := Lib.bitLen_le8' (x / 4294967296) (by omega) (by omega)
       have s := Lib.bitLen_shift32 x.toNat (by omega) (by omega)
       rw [e] at l ⊢
       exact wadd_k 32 _ _ (by decide) l s)
    | (rw [tab_get (x / 65536 / 256) _, Lib.len8_of (x / 65536 / 256) (by omega) (by omega)]
       have e : (x / 65536 / 256).toNat = x.toNat / 16777216 := by omega
       have l := Lib.bitLen_le8' (x / 65536 / 256) (by omega) (by omega)
       have s := Lib.bitLen_shift24 x.toNat (by omega) (by omega)
       rw [e] at l ⊢
       exact wadd_k 24 _ _ (by decide) l s)
    | (rw [tab_get (x / 65536) _, Lib.len8_of (x / 65536) (by omega) (by omega)]
       have e : (x / 65536).toNat = x.toNat / 65536 := by omega
       have l := Lib.bitLen_le8' (x / 65536) (by omega) (by omega)
       have s := Lib.bitLen_shift16 x.toNat (by omega) (by omega)
       rw [e] at l ⊢
       exact wadd_k 16 _ _ (by decide) l s)
    | (rw [tab_get (x / 256) _, Lib.len8_of (x / 256) (by omega) (by omega)]
       have e : (x / 256).toNat = x.toNat / 256 := by omega
       have l := Lib.bitLen_le8' (x / 256) (by omega) (by omega)
       have s := Lib.bitLen_shift8 x.toNat (by omega) (by omega)
       rw [e] at l ⊢
       exact wadd_k 8 _ _ (by decide) l s)
    | (rw [tab_get x _, Lib.len8_of x (by omega) (by omega)]
       have l := Lib.bitLen_le8' x (by omega) (by omega)
       first | exact wwrap_k _ l | exact wadd_k 0 _ _ (by decide) l (by omega) | exact wone_k _ l)

theorem aux_bd : ∀ (f x : Nat), x < 2 ^ f → x < 2 ^ Lib.bitLenAux f x ∧ (x ≠ 0 → 2 ^ Lib.bitLenAux f x ≤ 2 * x) ∧ Lib.bitLenAux f x ≤ f
  | 0, x, h => by simp [Lib.bitLenAux] at *; omega
  | f + 1, x, h => by
    simp only [Lib.bitLenAux]
    by_cases h0 : x = 0
    · simp [h0]
    · rw [if_neg h0]
      obtain ⟨a, b, c⟩ := aux_bd f (x / 2) (by rw [Nat.pow_succ] at h; omega)
      rw [Nat.add_comm, Nat.pow_succ]
      refine ⟨by omega, fun _ => ?_, by omega⟩
      by_cases h1 : x / 2 = 0
      · rw [h1]; cases f <;> simp [Lib.bitLenAux] <;> omega
      · have := b h1; omega

/-- By so much a number is moved up till its first bit is the 64th. -/
theorem norm (y : Int) (h0 : 0 < y) (h1 : y < 18446744073709551616) : ∃ s : Nat, s ≤ 63 ∧ 64 - (Lib.bitLen y.toNat : Int) = s ∧ 9223372036854775808 ≤ y * 2 ^ s ∧ y * 2 ^ s < 18446744073709551616 := by
  obtain ⟨Y, rfl⟩ := Int.eq_ofNat_of_zero_le (by omega : 0 ≤ y)
  rw [Int.toNat_natCast]
  obtain ⟨a, b, c⟩ := aux_bd 64 Y (by omega)
  change Y < 2 ^ Lib.bitLen Y at a
  change _ → 2 ^ Lib.bitLen Y ≤ 2 * Y at b
  change Lib.bitLen Y ≤ 64 at c
  have b := b (by omega)
  generalize Lib.bitLen Y = k at *
  have hk : 1 ≤ k := by
    rcases k with _ | k
    · simp at a; omega
    · omega
  have e : 2 ^ k * 2 ^ (64 - k) = 18446744073709551616 := by rw [← Nat.pow_add, show k + (64 - k) = 64 by omega]
  have e1 : Y * 2 ^ (64 - k) < 2 ^ k * 2 ^ (64 - k) := Nat.mul_lt_mul_of_pos_right a (Nat.two_pow_pos _)
  have e2 : 2 ^ k * 2 ^ (64 - k) ≤ 2 * Y * 2 ^ (64 - k) := Nat.mul_le_mul_right _ b
  rw [Nat.mul_assoc] at e2
  refine ⟨64 - k, by omega, by omega, ?_, ?_⟩
  · have : ((Y * 2 ^ (64 - k) : Nat) : Int) = (Y : Int) * 2 ^ (64 - k) := by push_cast; rfl
    omega
  · have : ((Y * 2 ^ (64 - k) : Nat) : Int) = (Y : Int) * 2 ^ (64 - k) := by push_cast; rfl
    omega

set_option maxRecDepth 100000 in
set_option maxHeartbeats 1600000 in
theorem lz64 (y : Int) (w : World) (h0 : 0 < y) (h1 : y < 18446744073709551616) :
    Calls Tryz.prog 163 #[.int .u64 y] w fun e w' => ∃ s : Nat, e = .returned (.int .i64 s) ∧ s ≤ 63 ∧ 9223372036854775808 ≤ y * 2 ^ s ∧ y * 2 ^ s < 18446744073709551616 ∧ w' = w := by
  obtain ⟨s, s1, s2, s3, s4⟩ := norm y h0 h1
  have H := Lib.hid s2
  have H1 := Lib.hid len64
  have c1 : (Lib.bitLen y.toNat : Int) ≤ 64 := by omega
  have c2 : 0 ≤ (Lib.bitLen y.toNat : Int) := by omega
  clear s2
  go_enter Tryz.func163, Tryz.ntmps163
  go_wp2_with fail
  refine (H1.out _ _ (by omega) (by omega)).mono ?_
  rintro e w1 ⟨rfl, rfl⟩
  go_wp2_with fail
  refine bodyPost_ret (v := .int .i64 (64 - (Lib.bitLen y.toNat : Int))) (by simp [results, Tryz.results163, go_sem]) rfl ⟨s, by rw [H.out], s1, s3, s4, rfl⟩

end Go.Proofs.YthoedmikfpbfnaaGreat

/-
  The plain law of bits.Div64: one half digit of the quotient.
-/
namespace Go.Proofs.YthoedmikfpbfnaaGreat
open Go Go.RowKit

/-- One half digit is sought: q is at least it, and u = q y1 + r. -/
def Half (u d y1 y0 q r : Int) : Prop := 0 ≤ q ∧ 0 ≤ r ∧ u = q * y1 + r ∧ (u * 4294967296 + d) / (y1 * 4294967296 + y0) ≤ q ∧ q ≤ 4294967297
/-- What is asked of the numbers. -/
def Nrm (u d y1 y0 : Int) : Prop := 2147483648 ≤ y1 ∧ y1 < 4294967296 ∧ 0 ≤ y0 ∧ y0 < 4294967296 ∧ 0 ≤ u ∧ u < y1 * 4294967296 + y0 ∧ 0 ≤ d ∧ d < 4294967296

theorem le_q {u d y1 y0 q : Int} (h : Nrm u d y1 y0) : q ≤ (u * 4294967296 + d) / (y1 * 4294967296 + y0) ↔ q * (y1 * 4294967296 + y0) ≤ u * 4294967296 + d := by
  obtain ⟨a, b, c, d', _⟩ := h
  exact Int.le_ediv_iff_mul_le (by omega)
theorem q_lt {u d y1 y0 : Int} (h : Nrm u d y1 y0) : (u * 4294967296 + d) / (y1 * 4294967296 + y0) < 4294967296 := by
  obtain ⟨a, b, c, d', e, f, g, i⟩ := h
  apply Int.ediv_lt_of_lt_mul (by omega)
  omega
theorem q_nonneg {u d y1 y0 : Int} (h : Nrm u d y1 y0) : 0 ≤ (u * 4294967296 + d) / (y1 * 4294967296 + y0) := by
  obtain ⟨a, b, c, d', e, f, g, i⟩ := h
  exact Int.ediv_nonneg (by omega) (by omega)

theorem half_init {u d y1 y0 : Int} (h : Nrm u d y1 y0) : Half u d y1 y0 (u / y1) (u - u / y1 * y1) ∧ u - u / y1 * y1 < y1 := by
  have hq := q_nonneg h
  have hle := (le_q (q := (u * 4294967296 + d) / (y1 * 4294967296 + y0)) h).1 (Int.le_refl _)
  obtain ⟨a, b, c, d', e, f, g, i⟩ := h
  have h1 := Int.emod_add_mul_ediv u y1
  have h2 := Int.emod_nonneg u (by omega : y1 ≠ 0)
  have h3 := Int.emod_lt_of_pos u (by omega : 0 < y1)
  have h4 : 0 ≤ u / y1 := Int.ediv_nonneg e (by omega)
  have h5 : u / y1 * y1 = y1 * (u / y1) := Int.mul_comm _ _
  unfold Half
  generalize (u * 4294967296 + d) / (y1 * 4294967296 + y0) = Q at *
  refine ⟨⟨h4, by omega, by omega, ?_, ?_⟩, by omega⟩
  · apply (Int.le_ediv_iff_mul_le (by omega)).2
    have : 0 ≤ Q * y0 := Int.mul_nonneg hq c
    have e1 : Q * (y1 * 4294967296 + y0) = Q * y1 * 4294967296 + Q * y0 := by grind
    omega
  · have e1 : u / y1 * y1 < (4294967296 + 2) * y1 := by omega
    have := Int.lt_of_mul_lt_mul_right e1 (by omega)
    omega

theorem half_step {u d y1 y0 q r : Int} (h : Nrm u d y1 y0) (H : Half u d y1 y0 q r) (ht : 4294967296 ≤ q ∨ 4294967296 * r + d < q * y0) : Half u d y1 y0 (q - 1) (r + y1) ∧ q - 1 ≤ 4294967296 ∧ 1 ≤ q := by
  have hq := q_nonneg h
  have hl := q_lt h
  have hle := (le_q (q := q) h).1
  obtain ⟨a, b, c, d', e, f, g, i⟩ := h
  obtain ⟨p0, p1, p2, p3, p4⟩ := H
  have key : (u * 4294967296 + d) / (y1 * 4294967296 + y0) < q := by
    rcases ht with ht | ht
    · omega
    · refine Int.not_le.1 fun hn => ?_
      have := hle hn
      have e1 : q * (y1 * 4294967296 + y0) = q * y1 * 4294967296 + q * y0 := by grind
      omega
  have e2 : (q - 1) * y1 = q * y1 - y1 := by grind
  refine ⟨⟨by omega, by omega, by omega, by omega, by omega⟩, by omega, by omega⟩

theorem half_end {u d y1 y0 q r : Int} (h : Nrm u d y1 y0) (H : Half u d y1 y0 q r) (ht : q * y0 ≤ 4294967296 * r + d) : q = (u * 4294967296 + d) / (y1 * 4294967296 + y0) := by
  have hle := (le_q (q := q) h).2
  obtain ⟨p0, p1, p2, p3, p4⟩ := H
  have e1 : q * (y1 * 4294967296 + y0) = q * y1 * 4294967296 + q * y0 := by grind
  have := hle (by omega)
  omega
theorem half_brk {u d y1 y0 q r : Int} (h : Nrm u d y1 y0) (H : Half u d y1 y0 q r) (hq : q ≤ 4294967296) (hr : 4294967296 ≤ r) : q = (u * 4294967296 + d) / (y1 * 4294967296 + y0) := by
  refine half_end h H ?_
  obtain ⟨a, b, c, d', e, f, g, i⟩ := h
  obtain ⟨p0, p1, p2, p3, p4⟩ := H
  have : q * y0 ≤ 4294967296 * 4294967296 := Int.mul_le_mul hq (by omega) c (by omega)
  omega
/-- No product of the test is too great. -/
theorem half_room {u d y1 y0 q r : Int} (h : Nrm u d y1 y0) (H : Half u d y1 y0 q r) : 0 ≤ q * y0 ∧ q * y0 < 18446744073709551616 := by
  obtain ⟨a, b, c, d', e, f, g, i⟩ := h
  obtain ⟨p0, p1, p2, p3, p4⟩ := H
  refine ⟨Int.mul_nonneg p0 c, ?_⟩
  have : q * y0 ≤ 4294967297 * 4294967295 := Int.mul_le_mul p4 (by omega) c (by omega)
  omega

/-- The two half digits together. -/
theorem halves {u un1 un0 Y q1 q0 : Int} (hY : 0 < Y) (_h1 : q1 = (u * 4294967296 + un1) / Y) (h0 : q0 = ((u * 4294967296 + un1 - q1 * Y) * 4294967296 + un0) / Y) :
    (u * 18446744073709551616 + un1 * 4294967296 + un0) / Y = q1 * 4294967296 + q0 ∧
    (u * 18446744073709551616 + un1 * 4294967296 + un0) % Y = (u * 4294967296 + un1 - q1 * Y) * 4294967296 + un0 - q0 * Y := by
  have a1 := Int.emod_add_mul_ediv ((u * 4294967296 + un1 - q1 * Y) * 4294967296 + un0) Y
  have a2 := Int.emod_nonneg ((u * 4294967296 + un1 - q1 * Y) * 4294967296 + un0) (by omega : Y ≠ 0)
  have a3 := Int.emod_lt_of_pos ((u * 4294967296 + un1 - q1 * Y) * 4294967296 + un0) hY
  rw [← h0] at a1
  generalize ((u * 4294967296 + un1 - q1 * Y) * 4294967296 + un0) % Y = R at *
  have e : u * 18446744073709551616 + un1 * 4294967296 + un0 = R + Y * (q1 * 4294967296 + q0) := by grind
  have e2 : (u * 4294967296 + un1 - q1 * Y) * 4294967296 + un0 - q0 * Y = R := by grind
  rw [e, e2, Int.add_mul_ediv_left _ _ (by omega), Int.add_mul_emod_self_left, Int.ediv_eq_zero_of_lt a2 a3, Int.emod_eq_of_lt a2 a3]
  exact ⟨by omega, rfl⟩

end Go.Proofs.YthoedmikfpbfnaaGreat

/-
  bits.Div64: the numbers that it starts from.
-/
namespace Go.Proofs.YthoedmikfpbfnaaGreat
open Go Go.RowKit

theorem u64_id {x : Int} (h0 : 0 ≤ x) (h1 : x < 18446744073709551616) : IntKind.u64.wrap x = x := by rw [IntKind.wrap_u64]; omega
theorem mask32 (x : Int) (h0 : 0 ≤ x) (h1 : x < 18446744073709551616) : bits .and .u64 x 4294967295 = x % 4294967296 := by
  obtain ⟨X, rfl⟩ := Int.eq_ofNat_of_zero_le h0
  have h := bits_and_u64_nat X 4294967295 (by omega) (by omega)
  have e : X &&& 4294967295 = X % 4294967296 := Nat.and_two_pow_sub_one_eq_mod X 32
  rw [e] at h
  exact h
theorem or_add (h b : Int) (s : Nat) (h0 : 0 ≤ h) (b0 : 0 ≤ b) (hh : h * 2 ^ s < 18446744073709551616) (hb : b < 2 ^ s) (h2 : h * 2 ^ s + b < 18446744073709551616) : bits .or .u64 (h * 2 ^ s) b = h * 2 ^ s + b := by
  obtain ⟨H, rfl⟩ := Int.eq_ofNat_of_zero_le h0
  obtain ⟨B, rfl⟩ := Int.eq_ofNat_of_zero_le b0
  have e2 : ((2 ^ s : Nat) : Int) = 2 ^ s := by push_cast; rfl
  rw [← e2] at hh hb h2 ⊢
  have e : (H : Int) * ((2 ^ s : Nat) : Int) = ((H * 2 ^ s : Nat) : Int) := (Int.natCast_mul _ _).symm
  rw [e] at hh h2 ⊢
  rw [bits_or_u64_nat _ _ (by omega) (by omega)]
  have := Nat.shiftLeft_add_eq_or_of_lt (b := B) (i := s) (by omega) H
  rw [Nat.shiftLeft_eq] at this
  rw [← this]
  exact Int.natCast_add _ _

theorem pow_s (s : Nat) (hs : s ≤ 63) : (2 : Int) ^ (64 - s) * 2 ^ s = 18446744073709551616 ∧ (0 : Int) < 2 ^ s ∧ (0 : Int) < 2 ^ (64 - s) := by
  refine ⟨?_, ?_, ?_⟩
  · rw [← Int.pow_add, show 64 - s + s = 64 by omega]; rfl
  · exact Int.pow_pos (by omega)
  · exact Int.pow_pos (by omega)

theorem div_pre (h l y : Int) (s : Nat) (h0 : 0 < h) (hy : h < y) (l0 : 0 ≤ l) (l1 : l < 18446744073709551616) (s1 : s ≤ 63) (s2 : 9223372036854775808 ≤ y * 2 ^ s) (s3 : y * 2 ^ s < 18446744073709551616) :
    ∃ Y Y1 Y0 U T T1 T0 : Int, y * 2 ^ s = Y ∧ Y / 4294967296 = Y1 ∧ bits .and .u64 Y 4294967295 = Y0 ∧ bits .or .u64 (IntKind.u64.wrap (h * 2 ^ s)) (l / 2 ^ (64 - s)) = U ∧
      IntKind.u64.wrap (l * 2 ^ s) = T ∧ T / 4294967296 = T1 ∧ bits .and .u64 T 4294967295 = T0 ∧ Y = Y1 * 4294967296 + Y0 ∧ T = T1 * 4294967296 + T0 ∧ 0 ≤ T0 ∧ T0 < 4294967296 ∧
      Nrm U T1 Y1 Y0 ∧ (h * 18446744073709551616 + l) * 2 ^ s = U * 18446744073709551616 + T1 * 4294967296 + T0 := by
  obtain ⟨p, p0, p1⟩ := pow_s s s1
  have a0 : 0 < h * 2 ^ s := Int.mul_pos h0 p0
  have a1 : (h + 1) * 2 ^ s ≤ y * 2 ^ s := Int.mul_le_mul_of_nonneg_right (by omega) (by omega)
  have a2 : (h + 1) * 2 ^ s = h * 2 ^ s + 2 ^ s := by grind
  have b0 : 0 ≤ l / 2 ^ (64 - s) := Int.ediv_nonneg l0 (by omega)
  have b1 : l / 2 ^ (64 - s) < 2 ^ s := by
    apply Int.ediv_lt_of_lt_mul p1
    rw [Int.mul_comm, p]; exact l1
  have c1 : l * 2 ^ s / 18446744073709551616 = l / 2 ^ (64 - s) := by
    rw [← p, Int.mul_ediv_mul_of_pos_left _ _ p0]
  have hw : IntKind.u64.wrap (l * 2 ^ s) = l * 2 ^ s % 18446744073709551616 := IntKind.wrap_u64 _
  have e1 : bits .or .u64 (IntKind.u64.wrap (h * 2 ^ s)) (l / 2 ^ (64 - s)) = h * 2 ^ s + l / 2 ^ (64 - s) := by
    rw [u64_id (by omega) (by omega), or_add h _ s (by omega) b0 (by omega) b1 (by omega)]
  refine ⟨y * 2 ^ s, y * 2 ^ s / 4294967296, y * 2 ^ s % 4294967296, h * 2 ^ s + l / 2 ^ (64 - s), l * 2 ^ s % 18446744073709551616, l * 2 ^ s % 18446744073709551616 / 4294967296, l * 2 ^ s % 18446744073709551616 % 4294967296, rfl, rfl, mask32 _ (by omega) (by omega), e1, hw, rfl, mask32 _ (by omega) (by omega), by omega, by omega, by omega, by omega, ⟨by omega, by omega, by omega, by omega, by omega, by omega, by omega, by omega⟩, ?_⟩
  have e2 : (h * 18446744073709551616 + l) * 2 ^ s = h * 2 ^ s * 18446744073709551616 + l * 2 ^ s := by grind
  rw [e2]
  omega

/-- The rest of the first half digit, as the code comes to it. -/
theorem div_mid {U T1 Y1 Y0 Y q : Int} (h : Nrm U T1 Y1 Y0) (hY : Y = Y1 * 4294967296 + Y0) (hq : q = (U * 4294967296 + T1) / (Y1 * 4294967296 + Y0)) :
    IntKind.u64.wrap (IntKind.u64.wrap (IntKind.u64.wrap (U * 4294967296) + T1) - IntKind.u64.wrap (q * Y)) = U * 4294967296 + T1 - q * Y ∧
    ∀ {d : Int}, 0 ≤ d → d < 4294967296 → Nrm (U * 4294967296 + T1 - q * Y) d Y1 Y0 := by
  obtain ⟨a, b, c, d', e, f, g, i⟩ := h
  rw [← hY] at hq f
  have a1 := Int.emod_add_mul_ediv (U * 4294967296 + T1) Y
  have a2 := Int.emod_nonneg (U * 4294967296 + T1) (by omega : Y ≠ 0)
  have a3 := Int.emod_lt_of_pos (U * 4294967296 + T1) (by omega : 0 < Y)
  rw [← hq, Int.mul_comm Y q] at a1
  have hv : 0 ≤ U * 4294967296 + T1 - q * Y ∧ U * 4294967296 + T1 - q * Y < Y := by omega
  refine ⟨?_, fun h0 h1 => ⟨a, b, c, d', hv.1, by rw [← hY]; exact hv.2, h0, h1⟩⟩
  simp only [IntKind.wrap_u64]
  omega

/-- The first guess of a half digit, as the code comes to it. -/
theorem div_first {U d Y1 Y0 : Int} (h : Nrm U d Y1 Y0) : U.tdiv Y1 = U / Y1 ∧ IntKind.u64.wrap (U / Y1) = U / Y1 ∧ IntKind.u64.wrap (U / Y1 * Y1) = U / Y1 * Y1 ∧ IntKind.u64.wrap (U - U / Y1 * Y1) = U - U / Y1 * Y1 := by
  obtain ⟨⟨i0, i1, i2, i3, i4⟩, hIr⟩ := half_init h
  obtain ⟨n0, n1, n2, n3, n4, n5, n6, n7⟩ := h
  exact ⟨Int.tdiv_eq_ediv_of_nonneg n4, u64_id i0 (by omega), u64_id (Int.mul_nonneg i0 (by omega)) (by omega), u64_id (by omega) (by omega)⟩

/-- What is returned. -/
theorem div_end {h l y Y Y1 Y0 U T1 T0 Q V q : Int} {s : Nat} (s1 : s ≤ 63) (hs : y * 2 ^ s = Y) (hV : (h * 18446744073709551616 + l) * 2 ^ s = U * 18446744073709551616 + T1 * 4294967296 + T0) (hY : Y = Y1 * 4294967296 + Y0)
    (hN : Nrm U T1 Y1 Y0) (hQ : Q = (U * 4294967296 + T1) / (Y1 * 4294967296 + Y0)) (hv : V = U * 4294967296 + T1 - Q * Y) (hM : Nrm V T0 Y1 Y0) (hq : q = (V * 4294967296 + T0) / (Y1 * 4294967296 + Y0)) :
    IntKind.u64.wrap (IntKind.u64.wrap (Q * 4294967296) + q) = (h * 18446744073709551616 + l) / y ∧
    IntKind.u64.wrap (IntKind.u64.wrap (IntKind.u64.wrap (V * 4294967296) + T0) - IntKind.u64.wrap (q * Y)) / 2 ^ s = (h * 18446744073709551616 + l) % y := by
  obtain ⟨p, p0, p1⟩ := pow_s s s1
  have a0 := q_nonneg hN
  have a1 := q_lt hN
  have b0 := q_nonneg hM
  have b1 := q_lt hM
  rw [← hQ] at a0 a1
  rw [← hq] at b0 b1
  have hk := (div_mid hM hY hq).1
  have hY0 : 0 < Y := by obtain ⟨n0, n1, n2, n3, n4, n5, n6, n7⟩ := hN; omega
  rw [← hY] at hQ hq
  rw [hv] at hq
  obtain ⟨d1, d2⟩ := halves (un0 := T0) hY0 hQ hq
  rw [← hV, ← hs] at d1 d2
  rw [Int.mul_ediv_mul_of_pos_left _ _ p0] at d1
  have d3 : ∀ N : Int, N * 2 ^ s % (y * 2 ^ s) = N % y * 2 ^ s := by
    intro N
    rw [Int.mul_comm N, Int.mul_comm y, Int.mul_emod_mul_of_pos _ _ p0, Int.mul_comm]
  rw [d3] at d2
  refine ⟨?_, ?_⟩
  · rw [d1, u64_id (x := Q * 4294967296) (by omega) (by omega), u64_id (by omega) (by omega)]
  · rw [hk, hv, ← hs, ← d2]
    exact Int.mul_ediv_cancel _ (by omega)

end Go.Proofs.YthoedmikfpbfnaaGreat

/-
  bits.Div64: the walk.
-/
namespace Go.Proofs.YthoedmikfpbfnaaGreat
open Go Go.RowKit

set_option maxRecDepth 100000 in
set_option maxHeartbeats 1600000 in
theorem div64_low (l y : Int) (w : World) (y0 : 0 < y) (l0 : 0 ≤ l) (l1 : l < 18446744073709551616) :
    Calls Tryz.prog 136 #[.int .u64 0, .int .u64 l, .int .u64 y] w fun e w' => e = .returned (.tuple #[.int .u64 (l / y), .int .u64 (l % y)]) ∧ Ext w w' := by
  have e0 : ¬ y = 0 := by omega
  have g0 : (y == 0) = false := by simpa using e0
  have a0 : 0 ≤ l / y := Int.ediv_nonneg l0 (by omega)
  have a1 : l / y < 18446744073709551616 := Int.lt_of_le_of_lt (Int.ediv_le_self y l0) l1
  go_enter Tryz.func136, Tryz.ntmps136
  go_wp2_with fail
  go_quiet (fail)
  go_wp2_with fail
  refine bodyPost_ret (v := .tuple #[.int .u64 (l / y), .int .u64 (l % y)]) (by simp [results, Tryz.results136, go_sem]) rfl ⟨rfl, (by repeat (first | exact Ext.refl _ | refine Ext.alloc ?_ | refine Ext.drew ?_ | refine Ext.drewN ?_ | refine Ext.set ?_ (Ext.size ?_) | refine Ext.set ?_ (Ext.size1 ?_) | refine Ext.set ?_ (Ext.size2 ?_) | refine Ext.trans ?_ (by assumption)))⟩

set_option maxRecDepth 100000 in
set_option maxHeartbeats 1600000 in
theorem div64_high (h l y : Int) (w : World) (h0 : 0 < h) (hy : h < y) (y1 : y < 18446744073709551616) (l0 : 0 ≤ l) (l1 : l < 18446744073709551616) :
    Calls Tryz.prog 136 #[.int .u64 h, .int .u64 l, .int .u64 y] w fun e w' => e = .returned (.tuple #[.int .u64 ((h * 18446744073709551616 + l) / y), .int .u64 ((h * 18446744073709551616 + l) % y)]) ∧ Ext w w' := by
  have H1 := Lib.hid lz64
  go_enter Tryz.func136, Tryz.ntmps136
  go_wp2_with fail
  refine (H1.out _ _ (by omega) (by omega)).mono ?_
  rintro e w1 ⟨s, rfl, s1, s2, s3, rfl⟩
  clear H1
  go_wp2_with fail
  obtain ⟨Y, Y1, Y0, U, T, T1, T0, e1, e2, e3, e4, e5, e6, e7, hY, hT, t0, t1, hN, hV⟩ := div_pre h l y s h0 hy l0 l1 s1 s2 s3
  simp only [e1, e2, e3, e4, e5, e6, e7]
  have ⟨n0, n1, n2, n3, n4, n5, n6, n7⟩ := hN
  obtain ⟨hI, hIr⟩ := half_init hN
  have ⟨i0, i1, i2, i3, i4⟩ := hI
  have f1 : U.tdiv Y1 = U / Y1 := Int.tdiv_eq_ediv_of_nonneg n4
  have f2 : IntKind.u64.wrap (U / Y1) = U / Y1 := u64_id i0 (by omega)
  have f3 : IntKind.u64.wrap (U / Y1 * Y1) = U / Y1 * Y1 := u64_id (Int.mul_nonneg i0 (by omega)) (by omega)
  have f4 : IntKind.u64.wrap (U - U / Y1 * Y1) = U - U / Y1 * Y1 := u64_id (by omega) (by omega)
  simp only [f1, f2, f3, f4]
  have HV := Lib.hid hV
  have eY := Lib.hid hY
  have eYs := Lib.hid e1
  have yb0 : 0 < Y := by omega
  have yb1 : Y < 18446744073709551616 := by omega
  have tb0 : 0 ≤ T := by omega
  have tb1 : T < 18446744073709551616 := by omega
  clear f1 f2 f3 f4 e1 e2 e3 e4 e5 e6 e7 i0 i1 i2 i3 i4 hV hY hT s2 s3
  go_loop [15, 16] (fun s15 s16 => ∃ q r : Int, s15 = .int .u64 q ∧ s16 = .int .u64 r ∧ Half U T1 Y1 Y0 q r ∧ r < 4294967296) (fun s15 _ => (intOf s15).toNat)
  case atStart => exact ⟨_, _, rfl, rfl, hI, by omega⟩
  case round =>
    clear hI hIr
    obtain ⟨q, r, rfl, rfl, H, hr⟩ := hrel
    have ⟨g1, g2⟩ := half_room hN H
    have ⟨H0, H1', H2, H3, H4⟩ := H
    have HH := Lib.hid H
    clear H H2 H3
    by_cases ht : 4294967296 ≤ q
    · have HT := Lib.hid (Or.inl ht : 4294967296 ≤ q ∨ 4294967296 * r + T1 < q * Y0)
      by_cases hb : 4294967296 ≤ r + Y1
      · have hq0 := half_brk hN (half_step hN HH.out HT.out).1 (half_step hN HH.out HT.out).2.1 hb
        obtain ⟨k1, hVb⟩ := div_mid hN eY.out hq0
        obtain ⟨Q, hQ⟩ : ∃ Q, Q = q - 1 := ⟨_, rfl⟩
        have hQ1 := Lib.hid (hQ.trans hq0)
        rw [← hQ] at k1 hVb
        clear hq0
        go_wp2_with fail
        simp only [← hQ]
        simp only [k1]
        obtain ⟨V, hV⟩ : ∃ V, V = U * 4294967296 + T1 - Q * Y := ⟨_, rfl⟩
        rw [← hV] at hVb
        simp only [← hV]
        have hM : Nrm V T0 Y1 Y0 := hVb t0 t1
        obtain ⟨f1, f2, f3, f4⟩ := div_first hM
        simp only [f1, f2, f3, f4]
        have hV' := Lib.hid hV
        clear hV
        obtain ⟨hI, hIr⟩ := half_init hM
        clear f1 f2 f3 f4 k1 hVb hQ
        go_loop [18, 16] (fun s18 s16 => ∃ q r : Int, s18 = .int .u64 q ∧ s16 = .int .u64 r ∧ Half V T0 Y1 Y0 q r ∧ r < 4294967296) (fun s18 _ => (intOf s18).toNat)
        case atStart => exact ⟨_, _, rfl, rfl, hI, by omega⟩
        case round =>
          clear hI hIr
          obtain ⟨q, r, rfl, rfl, H, hr⟩ := hrel
          have ⟨g1, g2⟩ := half_room hM H
          have ⟨H0, H1', H2, H3, H4⟩ := H
          have HH := Lib.hid H
          clear H H2 H3
          by_cases ht : 4294967296 ≤ q
          · have HT := Lib.hid (Or.inl ht : 4294967296 ≤ q ∨ 4294967296 * r + T0 < q * Y0)
            by_cases hb : 4294967296 ≤ r + Y1
            · have hq0 := half_brk hM (half_step hM HH.out HT.out).1 (half_step hM HH.out HT.out).2.1 hb
              have HQ0 := Lib.hid hq0
              clear hq0
              go_wp2_with fail
              obtain ⟨z1, z2⟩ := div_end (h := h) (l := l) (y := y) s1 eYs.out HV.out eY.out hN hQ1.out hV'.out hM HQ0.out
              simp only [z1, z2]
              refine bodyPost_ret (v := .tuple #[.int .u64 ((h * 18446744073709551616 + l) / y), .int .u64 ((h * 18446744073709551616 + l) % y)]) (by simp [results, Tryz.results136, go_sem]) rfl ⟨rfl, (by repeat (first | exact Ext.refl _ | refine Ext.alloc ?_ | refine Ext.drew ?_ | refine Ext.drewN ?_ | refine Ext.set ?_ (Ext.size ?_) | refine Ext.set ?_ (Ext.size1 ?_) | refine Ext.set ?_ (Ext.size2 ?_) | refine Ext.trans ?_ (by assumption)))⟩
            · go_wp2_with fail
              go_round
              case rel => exact ⟨_, _, rfl, rfl, (half_step hM HH.out HT.out).1, by omega⟩
              case measure => simp [intOf]; omega
          · by_cases ht2 : 4294967296 * r + T0 < q * Y0
            · have HT := Lib.hid (Or.inr ht2 : 4294967296 ≤ q ∨ 4294967296 * r + T0 < q * Y0)
              have hq1 := (half_step hM HH.out HT.out).2.2
              by_cases hb : 4294967296 ≤ r + Y1
              · have hq0 := half_brk hM (half_step hM HH.out HT.out).1 (half_step hM HH.out HT.out).2.1 hb
                have HQ0 := Lib.hid hq0
                clear hq0
                go_wp2_with fail
                obtain ⟨z1, z2⟩ := div_end (h := h) (l := l) (y := y) s1 eYs.out HV.out eY.out hN hQ1.out hV'.out hM HQ0.out
                simp only [z1, z2]
                refine bodyPost_ret (v := .tuple #[.int .u64 ((h * 18446744073709551616 + l) / y), .int .u64 ((h * 18446744073709551616 + l) % y)]) (by simp [results, Tryz.results136, go_sem]) rfl ⟨rfl, (by repeat (first | exact Ext.refl _ | refine Ext.alloc ?_ | refine Ext.drew ?_ | refine Ext.drewN ?_ | refine Ext.set ?_ (Ext.size ?_) | refine Ext.set ?_ (Ext.size1 ?_) | refine Ext.set ?_ (Ext.size2 ?_) | refine Ext.trans ?_ (by assumption)))⟩
              · go_wp2_with fail
                go_round
                case rel => exact ⟨_, _, rfl, rfl, (half_step hM HH.out HT.out).1, by omega⟩
                case measure => simp [intOf]; omega
            · have hq0 := half_end hM HH.out (by omega)
              have HQ0 := Lib.hid hq0
              clear hq0
              go_wp2_with fail
              obtain ⟨z1, z2⟩ := div_end (h := h) (l := l) (y := y) s1 eYs.out HV.out eY.out hN hQ1.out hV'.out hM HQ0.out
              simp only [z1, z2]
              refine bodyPost_ret (v := .tuple #[.int .u64 ((h * 18446744073709551616 + l) / y), .int .u64 ((h * 18446744073709551616 + l) % y)]) (by simp [results, Tryz.results136, go_sem]) rfl ⟨rfl, (by repeat (first | exact Ext.refl _ | refine Ext.alloc ?_ | refine Ext.drew ?_ | refine Ext.drewN ?_ | refine Ext.set ?_ (Ext.size ?_) | refine Ext.set ?_ (Ext.size1 ?_) | refine Ext.set ?_ (Ext.size2 ?_) | refine Ext.trans ?_ (by assumption)))⟩
      · go_wp2_with fail
        go_round
        case rel => exact ⟨_, _, rfl, rfl, (half_step hN HH.out HT.out).1, by omega⟩
        case measure => simp [intOf]; omega
    · by_cases ht2 : 4294967296 * r + T1 < q * Y0
      · have HT := Lib.hid (Or.inr ht2 : 4294967296 ≤ q ∨ 4294967296 * r + T1 < q * Y0)
        have hq1 := (half_step hN HH.out HT.out).2.2
        by_cases hb : 4294967296 ≤ r + Y1
        · have hq0 := half_brk hN (half_step hN HH.out HT.out).1 (half_step hN HH.out HT.out).2.1 hb
          obtain ⟨k1, hVb⟩ := div_mid hN eY.out hq0
          obtain ⟨Q, hQ⟩ : ∃ Q, Q = q - 1 := ⟨_, rfl⟩
          have hQ1 := Lib.hid (hQ.trans hq0)
          rw [← hQ] at k1 hVb
          clear hq0
          go_wp2_with fail
          simp only [← hQ]
          simp only [k1]
          obtain ⟨V, hV⟩ : ∃ V, V = U * 4294967296 + T1 - Q * Y := ⟨_, rfl⟩
          rw [← hV] at hVb
          simp only [← hV]
          have hM : Nrm V T0 Y1 Y0 := hVb t0 t1
          obtain ⟨f1, f2, f3, f4⟩ := div_first hM
          simp only [f1, f2, f3, f4]
          have hV' := Lib.hid hV
          clear hV
          obtain ⟨hI, hIr⟩ := half_init hM
          clear f1 f2 f3 f4 k1 hVb hQ
          go_loop [18, 16] (fun s18 s16 => ∃ q r : Int, s18 = .int .u64 q ∧ s16 = .int .u64 r ∧ Half V T0 Y1 Y0 q r ∧ r < 4294967296) (fun s18 _ => (intOf s18).toNat)
          case atStart => exact ⟨_, _, rfl, rfl, hI, by omega⟩
          case round =>
            clear hI hIr
            obtain ⟨q, r, rfl, rfl, H, hr⟩ := hrel
            have ⟨g1, g2⟩ := half_room hM H
            have ⟨H0, H1', H2, H3, H4⟩ := H
            have HH := Lib.hid H
            clear H H2 H3
            by_cases ht : 4294967296 ≤ q
            · have HT := Lib.hid (Or.inl ht : 4294967296 ≤ q ∨ 4294967296 * r + T0 < q * Y0)
              by_cases hb : 4294967296 ≤ r + Y1
              · have hq0 := half_brk hM (half_step hM HH.out HT.out).1 (half_step hM HH.out HT.out).2.1 hb
                have HQ0 := Lib.hid hq0
                clear hq0
                go_wp2_with fail
                obtain ⟨z1, z2⟩ := div_end (h := h) (l := l) (y := y) s1 eYs.out HV.out eY.out hN hQ1.out hV'.out hM HQ0.out
                simp only [z1, z2]
                refine bodyPost_ret (v := .tuple #[.int .u64 ((h * 18446744073709551616 + l) / y), .int .u64 ((h * 18446744073709551616 + l) % y)]) (by simp [results, Tryz.results136, go_sem]) rfl ⟨rfl, (by repeat (first | exact Ext.refl _ | refine Ext.alloc ?_ | refine Ext.drew ?_ | refine Ext.drewN ?_ | refine Ext.set ?_ (Ext.size ?_) | refine Ext.set ?_ (Ext.size1 ?_) | refine Ext.set ?_ (Ext.size2 ?_) | refine Ext.trans ?_ (by assumption)))⟩
              · go_wp2_with fail
                go_round
                case rel => exact ⟨_, _, rfl, rfl, (half_step hM HH.out HT.out).1, by omega⟩
                case measure => simp [intOf]; omega
            · by_cases ht2 : 4294967296 * r + T0 < q * Y0
              · have HT := Lib.hid (Or.inr ht2 : 4294967296 ≤ q ∨ 4294967296 * r + T0 < q * Y0)
                have hq1 := (half_step hM HH.out HT.out).2.2
                by_cases hb : 4294967296 ≤ r + Y1
                · have hq0 := half_brk hM (half_step hM HH.out HT.out).1 (half_step hM HH.out HT.out).2.1 hb
                  have HQ0 := Lib.hid hq0
                  clear hq0
                  go_wp2_with fail
                  obtain ⟨z1, z2⟩ := div_end (h := h) (l := l) (y := y) s1 eYs.out HV.out eY.out hN hQ1.out hV'.out hM HQ0.out
                  simp only [z1, z2]
                  refine bodyPost_ret (v := .tuple #[.int .u64 ((h * 18446744073709551616 + l) / y), .int .u64 ((h * 18446744073709551616 + l) % y)]) (by simp [results, Tryz.results136, go_sem]) rfl ⟨rfl, (by repeat (first | exact Ext.refl _ | refine Ext.alloc ?_ | refine Ext.drew ?_ | refine Ext.drewN ?_ | refine Ext.set ?_ (Ext.size ?_) | refine Ext.set ?_ (Ext.size1 ?_) | refine Ext.set ?_ (Ext.size2 ?_) | refine Ext.trans ?_ (by assumption)))⟩
                · go_wp2_with fail
                  go_round
                  case rel => exact ⟨_, _, rfl, rfl, (half_step hM HH.out HT.out).1, by omega⟩
                  case measure => simp [intOf]; omega
              · have hq0 := half_end hM HH.out (by omega)
                have HQ0 := Lib.hid hq0
                clear hq0
                go_wp2_with fail
                obtain ⟨z1, z2⟩ := div_end (h := h) (l := l) (y := y) s1 eYs.out HV.out eY.out hN hQ1.out hV'.out hM HQ0.out
                simp only [z1, z2]
                refine bodyPost_ret (v := .tuple #[.int .u64 ((h * 18446744073709551616 + l) / y), .int .u64 ((h * 18446744073709551616 + l) % y)]) (by simp [results, Tryz.results136, go_sem]) rfl ⟨rfl, (by repeat (first | exact Ext.refl _ | refine Ext.alloc ?_ | refine Ext.drew ?_ | refine Ext.drewN ?_ | refine Ext.set ?_ (Ext.size ?_) | refine Ext.set ?_ (Ext.size1 ?_) | refine Ext.set ?_ (Ext.size2 ?_) | refine Ext.trans ?_ (by assumption)))⟩
        · go_wp2_with fail
          go_round
          case rel => exact ⟨_, _, rfl, rfl, (half_step hN HH.out HT.out).1, by omega⟩
          case measure => simp [intOf]; omega
      · have hq0 := half_end hN HH.out (by omega)
        obtain ⟨k1, hVb⟩ := div_mid hN eY.out hq0
        obtain ⟨Q, hQ⟩ : ∃ Q, Q = q := ⟨_, rfl⟩
        have hQ1 := Lib.hid (hQ.trans hq0)
        rw [← hQ] at k1 hVb
        clear hq0
        go_wp2_with fail
        simp only [← hQ]
        simp only [k1]
        obtain ⟨V, hV⟩ : ∃ V, V = U * 4294967296 + T1 - Q * Y := ⟨_, rfl⟩
        rw [← hV] at hVb
        simp only [← hV]
        have hM : Nrm V T0 Y1 Y0 := hVb t0 t1
        obtain ⟨f1, f2, f3, f4⟩ := div_first hM
        simp only [f1, f2, f3, f4]
        have hV' := Lib.hid hV
        clear hV
        obtain ⟨hI, hIr⟩ := half_init hM
        clear f1 f2 f3 f4 k1 hVb hQ
        go_loop [18, 16] (fun s18 s16 => ∃ q r : Int, s18 = .int .u64 q ∧ s16 = .int .u64 r ∧ Half V T0 Y1 Y0 q r ∧ r < 4294967296) (fun s18 _ => (intOf s18).toNat)
        case atStart => exact ⟨_, _, rfl, rfl, hI, by omega⟩
        case round =>
          clear hI hIr
          obtain ⟨q, r, rfl, rfl, H, hr⟩ := hrel
          have ⟨g1, g2⟩ := half_room hM H
          have ⟨H0, H1', H2, H3, H4⟩ := H
          have HH := Lib.hid H
          clear H H2 H3
          by_cases ht : 4294967296 ≤ q
          · have HT := Lib.hid (Or.inl ht : 4294967296 ≤ q ∨ 4294967296 * r + T0 < q * Y0)
            by_cases hb : 4294967296 ≤ r + Y1
            · have hq0 := half_brk hM (half_step hM HH.out HT.out).1 (half_step hM HH.out HT.out).2.1 hb
              have HQ0 := Lib.hid hq0
              clear hq0
              go_wp2_with fail
              obtain ⟨z1, z2⟩ := div_end (h := h) (l := l) (y := y) s1 eYs.out HV.out eY.out hN hQ1.out hV'.out hM HQ0.out
              simp only [z1, z2]
              refine bodyPost_ret (v := .tuple #[.int .u64 ((h * 18446744073709551616 + l) / y), .int .u64 ((h * 18446744073709551616 + l) % y)]) (by simp [results, Tryz.results136, go_sem]) rfl ⟨rfl, (by repeat (first | exact Ext.refl _ | refine Ext.alloc ?_ | refine Ext.drew ?_ | refine Ext.drewN ?_ | refine Ext.set ?_ (Ext.size ?_) | refine Ext.set ?_ (Ext.size1 ?_) | refine Ext.set ?_ (Ext.size2 ?_) | refine Ext.trans ?_ (by assumption)))⟩
            · go_wp2_with fail
              go_round
              case rel => exact ⟨_, _, rfl, rfl, (half_step hM HH.out HT.out).1, by omega⟩
              case measure => simp [intOf]; omega
          · by_cases ht2 : 4294967296 * r + T0 < q * Y0
            · have HT := Lib.hid (Or.inr ht2 : 4294967296 ≤ q ∨ 4294967296 * r + T0 < q * Y0)
              have hq1 := (half_step hM HH.out HT.out).2.2
              by_cases hb : 4294967296 ≤ r + Y1
              · have hq0 := half_brk hM (half_step hM HH.out HT.out).1 (half_step hM HH.out HT.out).2.1 hb
                have HQ0 := Lib.hid hq0
                clear hq0
                go_wp2_with fail
                obtain ⟨z1, z2⟩ := div_end (h := h) (l := l) (y := y) s1 eYs.out HV.out eY.out hN hQ1.out hV'.out hM HQ0.out
                simp only [z1, z2]
                refine bodyPost_ret (v := .tuple #[.int .u64 ((h * 18446744073709551616 + l) / y), .int .u64 ((h * 18446744073709551616 + l) % y)]) (by simp [results, Tryz.results136, go_sem]) rfl ⟨rfl, (by repeat (first | exact Ext.refl _ | refine Ext.alloc ?_ | refine Ext.drew ?_ | refine Ext.drewN ?_ | refine Ext.set ?_ (Ext.size ?_) | refine Ext.set ?_ (Ext.size1 ?_) | refine Ext.set ?_ (Ext.size2 ?_) | refine Ext.trans ?_ (by assumption)))⟩
              · go_wp2_with fail
                go_round
                case rel => exact ⟨_, _, rfl, rfl, (half_step hM HH.out HT.out).1, by omega⟩
                case measure => simp [intOf]; omega
            · have hq0 := half_end hM HH.out (by omega)
              have HQ0 := Lib.hid hq0
              clear hq0
              go_wp2_with fail
              obtain ⟨z1, z2⟩ := div_end (h := h) (l := l) (y := y) s1 eYs.out HV.out eY.out hN hQ1.out hV'.out hM HQ0.out
              simp only [z1, z2]
              refine bodyPost_ret (v := .tuple #[.int .u64 ((h * 18446744073709551616 + l) / y), .int .u64 ((h * 18446744073709551616 + l) % y)]) (by simp [results, Tryz.results136, go_sem]) rfl ⟨rfl, (by repeat (first | exact Ext.refl _ | refine Ext.alloc ?_ | refine Ext.drew ?_ | refine Ext.drewN ?_ | refine Ext.set ?_ (Ext.size ?_) | refine Ext.set ?_ (Ext.size1 ?_) | refine Ext.set ?_ (Ext.size2 ?_) | refine Ext.trans ?_ (by assumption)))⟩

end Go.Proofs.YthoedmikfpbfnaaGreat

/-
  wide.Text.
-/
namespace Go.Proofs.YthoedmikfpbfnaaGreat
open Go Go.RowKit

/-- Block k is an array of bytes that may be written. -/
def Arr (w : World) (k : Nat) (t : TypeId) (zs : List Int) : Prop := w.heap[k]? = some (.cells (zs.map (Value.int .u8)).toArray t (0, 0))
theorem Arr.kind {w : World} {k : Nat} {t : TypeId} {zs : List Int} (h : Arr w k t zs) : Kind w k t := ⟨_, _, h⟩
theorem Arr.ext {w w' : World} {k : Nat} {t : TypeId} {zs : List Int} (h : Arr w k t zs) (hb : Ext w w') : Arr w' k t zs := (Below.block hb k h.kind.lt).trans h
theorem Arr.cell {w : World} {k : Nat} {t : TypeId} {zs : List Int} (h : Arr w k t zs) (j : Nat) (hj : j < zs.length) : w.cell? ⟨k, j, none⟩ = some (.int .u8 (zs.getD j 0)) := by
  unfold Arr at h
  simp [World.cell?, h, List.getElem?_eq_getElem hj]
theorem Arr.frozen {w : World} {k : Nat} {t : TypeId} {zs : List Int} (h : Arr w k t zs) (j : Nat) : w.frozen? ⟨k, j, none⟩ = false := by
  unfold Arr at h
  simp [World.frozen?, h]
theorem Arr.set {w : World} {k : Nat} {t : TypeId} {zs : List Int} (h : Arr w k t zs) (j : Nat) (y : Int) : Arr (w.setCell ⟨k, j, none⟩ (.int .u8 y)) k t (zs.set j y) := by
  have h1 := Joins.block_setCell (i := j) h (.int .u8 y)
  unfold Arr
  rw [h1, List.map_set]
  simp

theorem div64 (h l y : Int) (w : World) (h0 : 0 ≤ h) (hy : h < y) (y1 : y < 18446744073709551616) (l0 : 0 ≤ l) (l1 : l < 18446744073709551616) :
    Calls Tryz.prog 136 #[.int .u64 h, .int .u64 l, .int .u64 y] w fun e w' => e = .returned (.tuple #[.int .u64 ((h * 18446744073709551616 + l) / y), .int .u64 ((h * 18446744073709551616 + l) % y)]) ∧ Ext w w' := by
  by_cases e : h = 0
  · subst e
    have := div64_low l y w hy l0 l1
    rwa [show (0 : Int) * 18446744073709551616 + l = l by omega]
  · exact div64_high h l y w (by omega) hy y1 l0 l1

theorem mag_abs (n : Int) : mag n = (n.natAbs : Int) := by unfold mag; split <;> omega

end Go.Proofs.YthoedmikfpbfnaaGreat
end
section
/-
  The reckoner of walks, for this program: contracts, and the steps of a walk over facts on the reference's numbers.
-/
set_option linter.unusedVariables false
namespace Go.Proofs.YthoedmikfpbfnaaGreat
open Go Go.RowKit Go.Ev

/-- A number of the reference as it lies in a struct. -/
structure ZQ where
  n : Bool
  a : Option Addr
  l : Nat
  c : Nat
abbrev wv (x : Int) : Value := .agg #[.int .i64 (hi x), .int .u64 (lo x)]
abbrev ZL := List (ZQ × Int)
def ZOf (q : ZQ) (x : Int) (w : World) : Prop := IsZ w q.n (.slice q.a q.l q.c) x
def ZAll (L : ZL) (w : World) : Prop := ∀ p ∈ L, ZOf p.1 p.2 w
theorem Row.keep {w w' : World} (hk : Keep [3] w w') {v : Value} {xs : List Int} (h : Row w v xs) : Row w' v xs := by
  obtain ⟨a, cap, b, off, rfl, h1, h2, h3⟩ := h
  refine ⟨a, cap, b, off, rfl, h1, fun hp => ?_, fun i hi => ?_⟩
  · obtain ⟨e, cs, fr, hb⟩ := h2 hp
    exact ⟨e, cs, fr, hk _ _ _ _ (by simp) hb⟩
  · obtain ⟨e, cs, fr, hb⟩ := h2 (by omega)
    have h4 := h3 i hi
    have h5 := hk _ _ _ _ (by simp) hb
    simp only [World.cell?, hb] at h4
    simp only [World.cell?, h5]
    exact h4
theorem ZAll.stable (L : ZL) : Stable [3] (ZAll L) := fun w w' hk h p hp => by
  obtain ⟨ds, h1, h2⟩ := h p hp
  exact ⟨ds, h1.keep hk, h2⟩
theorem zall_nil (w : World) : ZAll [] w := fun p hp => by cases hp
/-- The facts P are among the facts L. -/
def Sub (P L : ZL) : Prop := ∀ p ∈ P, p ∈ L
theorem Sub.refl {L : ZL} : Sub L L := fun _ h => h
theorem sub0 {L : ZL} : Sub [] L := fun p hp => by cases hp
theorem Sub.all {P L : ZL} (h : Sub P L) {w : World} (k : ZAll L w) : ZAll P w := fun p hp => k p (h p hp)

/-- It returns one value. -/
def Fn (f : FuncId) (pre : ZL) (args : List Value) (v : Value) : Prop := ∀ w, ZAll pre w → Calls Tryz.prog f args.toArray w fun e w' => e = .returned v ∧ Below w.heap.size w w'
/-- A walk, as a statement that no tactic looks into. -/
structure Ru (C : Cx) (G : World → Prop) (c : Cf) : Prop where
  h : Run C G c
theorem mixed : Tryz.prog.follows .mixedOrders = true := by kernel_rfl
/-- The ends that a contract allows. -/
def EndV (w : World) (v : Value) (e : Ending) (w' : World) : Prop := e = .returned v ∧ Below w.heap.size w w'
theorem fn_of {f : FuncId} {fn : Func} {c : Code} {pre : ZL} {args : List Value} {v : Value} (hf : Tryz.prog.funcs[f]? = some fn) (hb : fn.body = some c) (h : ∀ w, Ru ⟨Tryz.prog, f, [3], w, EndV w v⟩ (ZAll pre) (startS fn args)) : Fn f pre args v :=
  fun w hw => calls_run [3] (ZAll pre) hf hb (ZAll.stable pre) hw (h w).h
section
variable {f0 : FuncId} {E : List TypeId} {w0 : World} {R : Ending → World → Prop} {L : ZL} {G : World → Prop} {c : Cf}
theorem st_fn {f : FuncId} {pre : ZL} {vs : List Value} {v : Value} (he : Enters Tryz.prog f) (h : Fn f pre vs v) (hp : Sub pre L) (hc : callAt (adv Tryz.prog E 9999 400 c) = some (f, vs.map .val))
    (hk : Ru ⟨Tryz.prog, f0, E, w0, R⟩ (ZAll L) (resume (adv Tryz.prog E 9999 400 c) (.val v))) : Ru ⟨Tryz.prog, f0, E, w0, R⟩ (ZAll L) c :=
  ⟨run_adv mixed (run_call1 hc he v (fun w hw => h w (hp.all hw)) hk.h)⟩
theorem st_pin (t : Nat) (v : Value) {v' : Value} (h : (adv Tryz.prog E t 400 c).fr[t]? = some (.val v)) (hv : v = v') (hk : Ru ⟨Tryz.prog, f0, E, w0, R⟩ G (setS (adv Tryz.prog E t 400 c) t v')) : Ru ⟨Tryz.prog, f0, E, w0, R⟩ G c :=
  ⟨run_adv mixed (run_pin h hv hk.h)⟩
/-- A slot's Bool is known. -/
theorem st_b (t : Nat) {b b' : Bool} (hv : b = b') (h : (adv Tryz.prog E t 400 c).fr[t]? = some (.val (.bool b))) (hk : Ru ⟨Tryz.prog, f0, E, w0, R⟩ G (setS (adv Tryz.prog E t 400 c) t (.bool b'))) : Ru ⟨Tryz.prog, f0, E, w0, R⟩ G c :=
  st_pin t (.bool b) h (by rw [hv]) hk
/-- A slot's number is told otherwise. -/
theorem st_i (t : Nat) (k : IntKind) {x x' : Int} (hv : x = x') (h : (adv Tryz.prog E t 400 c).fr[t]? = some (.val (.int k x))) (hk : Ru ⟨Tryz.prog, f0, E, w0, R⟩ G (setS (adv Tryz.prog E t 400 c) t (.int k x'))) : Ru ⟨Tryz.prog, f0, E, w0, R⟩ G c :=
  st_pin t (.int k x) h (by rw [hv]) hk
theorem st_ret {fn : Func} {v : Value} (hf : Tryz.prog.funcs[f0]? = some fn) (h : retAt Tryz.prog fn.results.toList (adv Tryz.prog E 9999 400 c) = some v) : Ru ⟨Tryz.prog, f0, E, w0, EndV w0 v⟩ G c :=
  ⟨run_adv mixed (run_ret hf h fun w hb _ => ⟨rfl, hb⟩)⟩
theorem st_retv {fn : Func} {v v' : Value} (hf : Tryz.prog.funcs[f0]? = some fn) (hv : v = v') (h : retAt Tryz.prog fn.results.toList (adv Tryz.prog E 9999 400 c) = some v) : Ru ⟨Tryz.prog, f0, E, w0, EndV w0 v'⟩ G c := by
  subst hv; exact st_ret hf h
/-- One more round of a loop, as it is. -/
theorem st_round (hi : idle (adv Tryz.prog E 9999 400 c) = true) (hk : Ru ⟨Tryz.prog, f0, E, w0, R⟩ G (unroll (adv Tryz.prog E 9999 400 c))) : Ru ⟨Tryz.prog, f0, E, w0, R⟩ G c := ⟨run_adv mixed (run_unroll hi hk.h)⟩
theorem st_ldv {T : TypeId} {ad : Addr} {v : Value} (h : ∀ w, G w → (loadVar T ad).run Tryz.prog w = .ok v w) (hc : loadAt (adv Tryz.prog E 9999 400 c) = some (T, ad)) (hk : Ru ⟨Tryz.prog, f0, E, w0, R⟩ G (resume (adv Tryz.prog E 9999 400 c) (.val v))) : Ru ⟨Tryz.prog, f0, E, w0, R⟩ G c :=
  ⟨run_adv mixed (run_ldv hc h hk.h)⟩
theorem st_idx {T : TypeId} {xv jv v : Value} (h : ∀ w, G w → (Instr.indexAt T xv jv).run Tryz.prog w = .ok v w) (hc : idxAt (adv Tryz.prog E 9999 400 c) = some (T, xv, jv)) (hk : Ru ⟨Tryz.prog, f0, E, w0, R⟩ G (resume (adv Tryz.prog E 9999 400 c) (.val v))) : Ru ⟨Tryz.prog, f0, E, w0, R⟩ G c :=
  ⟨run_adv mixed (run_idx hc h hk.h)⟩
/-! loops -/
/-- The slots and the blocks. -/
def fb (c : Cf) : List SV × List Bk := (c.fr, c.bl)
/-- Into a loop's round, with the slots and blocks y. -/
def enterL (c : Cf) (y : List SV × List Bk) : Cf := match loopAt c with
  | some (b, k) => ⟨.code b :: .inLoop b :: k, none, y.1, y.2⟩
  | none => c
/-- At a round's end. -/
def backL (c : Cf) (y : List SV × List Bk) : Cf := match loopAt c with
  | some (b, k) => ⟨.inLoop b :: k, none, y.1, y.2⟩
  | none => c
/-- What a round may use: the loop from a later round on. -/
structure Back (C : Cx) (c : Cf) {X : Type} (I : X → List SV × List Bk) (Lf : X → ZL) (p : X → Prop) (m : X → Nat) (x : X) : Prop where
  h : ∀ x' (G' : World → Prop), m x' < m x → p x' → (∀ w, G' w → ZAll (Lf x') w) → Run C G' (backL c (I x'))
theorem st_loop {X : Type} (I : X → List SV × List Bk) (Lf : X → ZL) (p : X → Prop) (m : X → Nat) (x0 : X) (hc : (loopAt (adv Tryz.prog [3] 9999 400 c)).isSome = true) (h0 : fb (adv Tryz.prog [3] 9999 400 c) = I x0) (hL : Sub (Lf x0) L) (hp : p x0)
    (round : ∀ x, p x → Back ⟨Tryz.prog, f0, [3], w0, R⟩ (adv Tryz.prog [3] 9999 400 c) I Lf p m x → Ru ⟨Tryz.prog, f0, [3], w0, R⟩ (ZAll (Lf x)) (enterL (adv Tryz.prog [3] 9999 400 c) (I x))) (hE : E = [3] := by rfl) : Ru ⟨Tryz.prog, f0, E, w0, R⟩ (ZAll L) c := by
  subst hE
  refine ⟨run_adv (t := 9999) (n := 400) mixed ?_⟩
  show Run _ _ (adv Tryz.prog [3] 9999 400 c)
  generalize adv Tryz.prog [3] 9999 400 c = c1 at *
  cases hl : loopAt c1 with
  | none => rw [hl] at hc; cases hc
  | some bk =>
    obtain ⟨b, k⟩ := bk
    refine run_loop hl I (fun x w => ZAll (Lf x) w ∧ p x) (fun x w w' hk hw => ⟨ZAll.stable _ w w' hk hw.1, hw.2⟩) m x0 h0 (fun w hw => ⟨hL.all hw, hp⟩) ?_
    intro x back
    refine run_know (p := p x) (fun w hw => hw.2) fun hx => ?_
    have hb : Back ⟨Tryz.prog, f0, [3], w0, R⟩ c1 I Lf p m x := ⟨fun x' G' hm hp' hG => by
      have := back x' G' hm (fun w hw => ⟨hG w hw, hp'⟩)
      unfold backL; rw [hl]; exact this⟩
    have := (round x hx hb).h
    unfold enterL at this; rw [hl] at this
    exact this.mono (ZAll.stable _) fun w hw => hw.1
/-- A round's end: on with the next one. -/
theorem st_back {X : Type} {c0 : Cf} {I : X → List SV × List Bk} {Lf : X → ZL} {p : X → Prop} {m : X → Nat} {x : X} (hb : Back ⟨Tryz.prog, f0, [3], w0, R⟩ c0 I Lf p m x) (x' : X) (hm : m x' < m x) (hp : p x') (hL : Sub (Lf x') L)
    (h0 : fb (adv Tryz.prog [3] 9999 400 c) = I x') (hc : loopBack (adv Tryz.prog [3] 9999 400 c) = loopAt c0) (hs : (loopAt c0).isSome = true) (hE : E = [3] := by rfl) : Ru ⟨Tryz.prog, f0, E, w0, R⟩ (ZAll L) c := by
  subst hE
  refine ⟨run_adv (t := 9999) (n := 400) mixed ?_⟩
  show Run _ _ (adv Tryz.prog [3] 9999 400 c)
  generalize adv Tryz.prog [3] 9999 400 c = c1 at *
  cases hl : loopAt c0 with
  | none => rw [hl] at hs; cases hs
  | some bk =>
    obtain ⟨b, k⟩ := bk
    rw [hl] at hc
    have := hb.h x' (ZAll L) hm hp (fun w hw => hL.all hw)
    unfold backL at this; rw [hl] at this
    exact run_back hc (fr := (I x').1) (bl := (I x').2) h0 this
theorem st_forget (ts : List Nat) (hrg : (match (adv Tryz.prog E 9999 400 c).rg with | none => true | _ => false) = true) (hk : Ru ⟨Tryz.prog, f0, E, w0, R⟩ G (forget ts (adv Tryz.prog E 9999 400 c))) : Ru ⟨Tryz.prog, f0, E, w0, R⟩ G c :=
  ⟨run_adv mixed (run_forget hrg ts hk.h)⟩
/-! rows of the call's own -/
/-- Called with a row of these values. -/
def FnR (f : FuncId) (vs : List Value) (T : TypeId) (n : Nat) (v : Value) : Prop := ∀ w k, w.heap[k]? = some (.cells vs.toArray T (0, 0)) → Calls Tryz.prog f #[.slice (some ⟨k, 0, none⟩) n n] w fun e w' => e = .returned v ∧ Below w.heap.size w w'
def RowAt (k : Nat) (vs : List Value) (T : TypeId) (w : World) : Prop := w.heap[k]? = some (.cells vs.toArray T (0, 0))
theorem fnR_of {f : FuncId} {fn : Func} {c : Code} {vs : List Value} {n : Nat} {v : Value} (hf : Tryz.prog.funcs[f]? = some fn) (hb : fn.body = some c)
    (h : ∀ w k, Ru ⟨Tryz.prog, f, [3], w, EndV w v⟩ (RowAt k vs 3) (startS fn [.slice (some ⟨k, 0, none⟩) n n])) : FnR f vs 3 n v :=
  fun w k hk => calls_run [3] (RowAt k vs 3) hf hb (fun w w' hK hw => hK k _ _ _ (by simp) hw) hk (h w k).h
theorem load_cell {T : TypeId} {a : Addr} {v : Value} {w : World} (h0 : (Tryz.prog.underlying T).map (fun d => d.isRow) = some false) (hc : w.cell? a = some v) : (loadVar T a).run Tryz.prog w = .ok v w := by
  obtain ⟨d, hd, hr⟩ := Option.map_eq_some_iff.1 h0
  simp [loadVar, Sem.run_bind, isAgg_run hd, hr, run_load, hc]
theorem load_int {a : Addr} {v : Value} {w : World} (hc : w.cell? a = some v) : (loadVar 3 a).run Tryz.prog w = .ok v w := load_cell (by kernel_rfl) hc
theorem load_bool {a : Addr} {v : Value} {w : World} (hc : w.cell? a = some v) : (loadVar 4 a).run Tryz.prog w = .ok v w := load_cell (by kernel_rfl) hc
theorem ld_row {k o : Nat} {vs : List Value} {T : TypeId} {v : Value} {w : World} (h : RowAt k vs T w) (hv : vs[o]? = some v) : (loadVar 3 ⟨k, o, none⟩).run Tryz.prog w = .ok v w := by
  refine load_int ?_
  unfold RowAt at h
  simp [World.cell?, h, hv]
theorem st_ldrow {k : Nat} {vs : List Value} {T : TypeId} (o : Nat) {v : Value} (hv : vs[o]? = some v) (hc : loadAt (adv Tryz.prog E 9999 400 c) = some (3, ⟨k, o, none⟩)) (hk : Ru ⟨Tryz.prog, f0, E, w0, R⟩ (RowAt k vs T) (resume (adv Tryz.prog E 9999 400 c) (.val v))) : Ru ⟨Tryz.prog, f0, E, w0, R⟩ (RowAt k vs T) c :=
  st_ldv (fun w hw => ld_row hw hv) hc hk
/-- It makes a row for its caller. -/
def FnB (f : FuncId) (args : List Value) (vs : List Value) (T : TypeId) (n : Nat) : Prop := ∀ w, Calls Tryz.prog f args.toArray w fun e w' => ∃ k, e = .returned (.slice (some ⟨k, 0, none⟩) n n) ∧ w.heap.size ≤ k ∧ w'.heap[k]? = some (.cells vs.toArray T (0, 0)) ∧ Below w.heap.size w w'
def EndB (w0 : World) (vs : List Value) (T : TypeId) (n : Nat) (e : Ending) (w' : World) : Prop := ∃ k, e = .returned (.slice (some ⟨k, 0, none⟩) n n) ∧ w0.heap.size ≤ k ∧ w'.heap[k]? = some (.cells vs.toArray T (0, 0)) ∧ Below w0.heap.size w0 w'
theorem fnB_of {f : FuncId} {fn : Func} {c : Code} {args vs : List Value} {T : TypeId} {n : Nat} (hf : Tryz.prog.funcs[f]? = some fn) (hb : fn.body = some c) (h : ∀ w, Ru ⟨Tryz.prog, f, [3], w, EndB w vs T n⟩ (ZAll []) (startS fn args)) : FnB f args vs T n :=
  fun w => calls_run [3] (ZAll []) hf hb (ZAll.stable []) (zall_nil w) (h w).h
theorem st_retB {fn : Func} {vs : List Value} {T : TypeId} {n : Nat} (hf : Tryz.prog.funcs[f0]? = some fn) (h : retSl fn.results.toList (adv Tryz.prog E 9999 400 c) = some (vs, T, n)) (hm : memN 999999 E = false := by rfl) : Ru ⟨Tryz.prog, f0, E, w0, EndB w0 vs T n⟩ (ZAll L) c :=
  ⟨run_adv mixed (run_retSl hf hm h fun w k hb _ h1 h2 => ⟨k, rfl, h1, h2, hb⟩)⟩
theorem st_row {f : FuncId} {vs : List Value} {T : TypeId} {v : Value} {b n : Nat} (he : Enters Tryz.prog f) (h : FnR f vs T n v) (hc : callAt (adv Tryz.prog E 9999 400 c) = some (f, [.sl b 0 n n])) (hB : (adv Tryz.prog E 9999 400 c).bl[b]? = some ⟨vs.map .val, T⟩)
    (hk : Ru ⟨Tryz.prog, f0, E, w0, R⟩ (ZAll L) (resume (adv Tryz.prog E 9999 400 c) (.val v))) : Ru ⟨Tryz.prog, f0, E, w0, R⟩ (ZAll L) c := by
  refine ⟨run_adv mixed fun hs => run_call hc he (X := Unit) (fun _ => .val v) (fun _ _ => True) (fun _ _ _ _ _ => trivial) (fun _ _ => trivial) (fun r N w us ha hbl hG => ?_) (fun _ => hk.h.mono hs fun w hw => hw.1) hs⟩
  obtain ⟨u, rfl, hu, hfr⟩ : ∃ u, us = [u] ∧ u = Value.slice (some ⟨r b, 0, none⟩) n n ∧ ¬ N b := by
    match us, ha with
    | [u], h => exact ⟨u, rfl, h.1.1, h.1.2⟩
  subst hu
  obtain ⟨-, cs, hcs, hok⟩ := hbl.is b _ hB hfr
  obtain rfl := cellsOk_eq hok
  exact (h w _ hcs).mono fun e w' ⟨h1, h2⟩ => ⟨(), v, h1, rfl, h2, trivial⟩
end
end Go.Proofs.YthoedmikfpbfnaaGreat
end
section
/-
  Every function of the program is entered when it is called.
-/
namespace Go.Proofs.YthoedmikfpbfnaaGreat
open Go Go.Ev
theorem ent57 : Enters Tryz.prog 57 := enters_of Tryz.func57 (by kernel_rfl) rfl
theorem ent18 : Enters Tryz.prog 18 := enters_of Tryz.func18 (by kernel_rfl) rfl
theorem ent40 : Enters Tryz.prog 40 := enters_of Tryz.func40 (by kernel_rfl) rfl
theorem ent17 : Enters Tryz.prog 17 := enters_of Tryz.func17 (by kernel_rfl) rfl
theorem ent55 : Enters Tryz.prog 55 := enters_of Tryz.func55 (by kernel_rfl) rfl
theorem ent16 : Enters Tryz.prog 16 := enters_of Tryz.func16 (by kernel_rfl) rfl
theorem ent30 : Enters Tryz.prog 30 := enters_of Tryz.func30 (by kernel_rfl) rfl
theorem ent97 : Enters Tryz.prog 97 := enters_of Tryz.func97 (by kernel_rfl) rfl
theorem ent123 : Enters Tryz.prog 123 := enters_of Tryz.func123 (by kernel_rfl) rfl
theorem ent64 : Enters Tryz.prog 64 := enters_of Tryz.func64 (by kernel_rfl) rfl
theorem ent25 : Enters Tryz.prog 25 := enters_of Tryz.func25 (by kernel_rfl) rfl
theorem ent63 : Enters Tryz.prog 63 := enters_of Tryz.func63 (by kernel_rfl) rfl
theorem ent100 : Enters Tryz.prog 100 := enters_of Tryz.func100 (by kernel_rfl) rfl
theorem ent42 : Enters Tryz.prog 42 := enters_of Tryz.func42 (by kernel_rfl) rfl
theorem ent26 : Enters Tryz.prog 26 := enters_of Tryz.func26 (by kernel_rfl) rfl
theorem ent56 : Enters Tryz.prog 56 := enters_of Tryz.func56 (by kernel_rfl) rfl
theorem ent7 : Enters Tryz.prog 7 := enters_of Tryz.func7 (by kernel_rfl) rfl
theorem ent9 : Enters Tryz.prog 9 := enters_of Tryz.func9 (by kernel_rfl) rfl
theorem ent12 : Enters Tryz.prog 12 := enters_of Tryz.func12 (by kernel_rfl) rfl
theorem ent14 : Enters Tryz.prog 14 := enters_of Tryz.func14 (by kernel_rfl) rfl
theorem ent98 : Enters Tryz.prog 98 := enters_of Tryz.func98 (by kernel_rfl) rfl
theorem ent50 : Enters Tryz.prog 50 := enters_of Tryz.func50 (by kernel_rfl) rfl
theorem ent120 : Enters Tryz.prog 120 := enters_of Tryz.func120 (by kernel_rfl) rfl
theorem ent70 : Enters Tryz.prog 70 := enters_of Tryz.func70 (by kernel_rfl) rfl
theorem ent115 : Enters Tryz.prog 115 := enters_of Tryz.func115 (by kernel_rfl) rfl
theorem ent58 : Enters Tryz.prog 58 := enters_of Tryz.func58 (by kernel_rfl) rfl
theorem ent118 : Enters Tryz.prog 118 := enters_of Tryz.func118 (by kernel_rfl) rfl
theorem ent119 : Enters Tryz.prog 119 := enters_of Tryz.func119 (by kernel_rfl) rfl
theorem ent44 : Enters Tryz.prog 44 := enters_of Tryz.func44 (by kernel_rfl) rfl
theorem ent92 : Enters Tryz.prog 92 := enters_of Tryz.func92 (by kernel_rfl) rfl
theorem ent99 : Enters Tryz.prog 99 := enters_of Tryz.func99 (by kernel_rfl) rfl
theorem ent65 : Enters Tryz.prog 65 := enters_of Tryz.func65 (by kernel_rfl) rfl
theorem ent139 : Enters Tryz.prog 139 := enters_of Tryz.func139 (by kernel_rfl) rfl
theorem ent66 : Enters Tryz.prog 66 := enters_of Tryz.func66 (by kernel_rfl) rfl
theorem ent67 : Enters Tryz.prog 67 := enters_of Tryz.func67 (by kernel_rfl) rfl
theorem ent68 : Enters Tryz.prog 68 := enters_of Tryz.func68 (by kernel_rfl) rfl
theorem ent23 : Enters Tryz.prog 23 := enters_of Tryz.func23 (by kernel_rfl) rfl
theorem ent117 : Enters Tryz.prog 117 := enters_of Tryz.func117 (by kernel_rfl) rfl
theorem ent141 : Enters Tryz.prog 141 := enters_of Tryz.func141 (by kernel_rfl) rfl
theorem ent124 : Enters Tryz.prog 124 := enters_of Tryz.func124 (by kernel_rfl) rfl
theorem ent142 : Enters Tryz.prog 142 := enters_of Tryz.func142 (by kernel_rfl) rfl
theorem ent143 : Enters Tryz.prog 143 := enters_of Tryz.func143 (by kernel_rfl) rfl
theorem ent144 : Enters Tryz.prog 144 := enters_of Tryz.func144 (by kernel_rfl) rfl
theorem ent145 : Enters Tryz.prog 145 := enters_of Tryz.func145 (by kernel_rfl) rfl
theorem ent161 : Enters Tryz.prog 161 := enters_of Tryz.func161 (by kernel_rfl) rfl
theorem ent69 : Enters Tryz.prog 69 := enters_of Tryz.func69 (by kernel_rfl) rfl
theorem ent71 : Enters Tryz.prog 71 := enters_of Tryz.func71 (by kernel_rfl) rfl
theorem ent72 : Enters Tryz.prog 72 := enters_of Tryz.func72 (by kernel_rfl) rfl
theorem ent114 : Enters Tryz.prog 114 := enters_of Tryz.func114 (by kernel_rfl) rfl
theorem ent19 : Enters Tryz.prog 19 := enters_of Tryz.func19 (by kernel_rfl) rfl
theorem ent20 : Enters Tryz.prog 20 := enters_of Tryz.func20 (by kernel_rfl) rfl
theorem ent21 : Enters Tryz.prog 21 := enters_of Tryz.func21 (by kernel_rfl) rfl
theorem ent24 : Enters Tryz.prog 24 := enters_of Tryz.func24 (by kernel_rfl) rfl
theorem ent29 : Enters Tryz.prog 29 := enters_of Tryz.func29 (by kernel_rfl) rfl
theorem ent41 : Enters Tryz.prog 41 := enters_of Tryz.func41 (by kernel_rfl) rfl
theorem ent43 : Enters Tryz.prog 43 := enters_of Tryz.func43 (by kernel_rfl) rfl
theorem ent48 : Enters Tryz.prog 48 := enters_of Tryz.func48 (by kernel_rfl) rfl
theorem ent49 : Enters Tryz.prog 49 := enters_of Tryz.func49 (by kernel_rfl) rfl
theorem ent107 : Enters Tryz.prog 107 := enters_of Tryz.func107 (by kernel_rfl) rfl
theorem ent108 : Enters Tryz.prog 108 := enters_of Tryz.func108 (by kernel_rfl) rfl
theorem ent109 : Enters Tryz.prog 109 := enters_of Tryz.func109 (by kernel_rfl) rfl
theorem ent160 : Enters Tryz.prog 160 := enters_of Tryz.func160 (by kernel_rfl) rfl
theorem ent122 : Enters Tryz.prog 122 := enters_of Tryz.func122 (by kernel_rfl) rfl
theorem ent159 : Enters Tryz.prog 159 := enters_of Tryz.func159 (by kernel_rfl) rfl
theorem ent166 : Enters Tryz.prog 166 := enters_of Tryz.func166 (by kernel_rfl) rfl
theorem ent125 : Enters Tryz.prog 125 := enters_of Tryz.func125 (by kernel_rfl) rfl
theorem ent106 : Enters Tryz.prog 106 := enters_of Tryz.func106 (by kernel_rfl) rfl
theorem ent146 : Enters Tryz.prog 146 := enters_of Tryz.func146 (by kernel_rfl) rfl
theorem ent147 : Enters Tryz.prog 147 := enters_of Tryz.func147 (by kernel_rfl) rfl
theorem ent148 : Enters Tryz.prog 148 := enters_of Tryz.func148 (by kernel_rfl) rfl
theorem ent149 : Enters Tryz.prog 149 := enters_of Tryz.func149 (by kernel_rfl) rfl
theorem ent150 : Enters Tryz.prog 150 := enters_of Tryz.func150 (by kernel_rfl) rfl
theorem ent151 : Enters Tryz.prog 151 := enters_of Tryz.func151 (by kernel_rfl) rfl
theorem ent152 : Enters Tryz.prog 152 := enters_of Tryz.func152 (by kernel_rfl) rfl
theorem ent153 : Enters Tryz.prog 153 := enters_of Tryz.func153 (by kernel_rfl) rfl
theorem ent154 : Enters Tryz.prog 154 := enters_of Tryz.func154 (by kernel_rfl) rfl
theorem ent155 : Enters Tryz.prog 155 := enters_of Tryz.func155 (by kernel_rfl) rfl
end Go.Proofs.YthoedmikfpbfnaaGreat
end
section
/-
  The reference's Fits: is a number one of 64 bits?
-/
namespace Go.Proofs.YthoedmikfpbfnaaGreat
open Go Go.RowKit

/-- 2 to the power k. -/
def P (k : Nat) : Int := 2 ^ k
theorem Bits.P (k : Nat) : Bits (k + 1) (P k) := Bits.pow k
/-- What is read when the digits from k on are. -/
def up (neg : Bool) (ds : List Int) (k : Nat) : Int := sgn neg (val (ds.drop k))
end Go.Proofs.YthoedmikfpbfnaaGreat

/-
  The reference's wide numbers: Fits of layer 2.
-/
namespace Go.Proofs.YthoedmikfpbfnaaGreat
open Go Go.RowKit

end Go.Proofs.YthoedmikfpbfnaaGreat

/-
  The reference's wide numbers: Of and Told of layer 2.
-/
namespace Go.Proofs.YthoedmikfpbfnaaGreat
open Go Go.RowKit

theorem W128.bits {n : Int} (h : W128 n) : Bits 128 n := by unfold W128 at h; unfold Bits; omega
theorem I64.bits {n : Int} (h : I64 n) : Bits 64 n := by unfold I64 at h; unfold Bits; omega
theorem I64.w {n : Int} (h : I64 n) : W128 n := by unfold I64 at h; unfold W128; omega
end Go.Proofs.YthoedmikfpbfnaaGreat

/-
  What every right program answers: alive of layer 2.
-/
namespace Go.Proofs.YthoedmikfpbfnaaGreat
open Go Go.RowKit

theorem liv_of (n : Int) (w : World) (h : I64 n) : Calls Tryz.prog 30 #[.int .i64 n] w (fun e w' => e = .returned (.agg #[.int .i64 (hi n), .int .u64 (lo n)]) ∧ Ext w w') := of_pure n w h.1 h.2
end Go.Proofs.YthoedmikfpbfnaaGreat

/-
  The law WideInts, walked.
-/
namespace Go.Proofs.YthoedmikfpbfnaaGreat
open Go Go.RowKit

end Go.Proofs.YthoedmikfpbfnaaGreat

/-
  The law WideProducts, walked.
-/
namespace Go.Proofs.YthoedmikfpbfnaaGreat
open Go Go.RowKit

theorem IsZ.alloc {w : World} {neg : Bool} {sv : Value} {n : Int} (h : IsZ w neg sv n) (o : Obj) : IsZ (w.alloc o) neg sv n := h.ext (Ext.refl w).alloc
theorem Box2.named {V w : World} {k : Nat} {u v : Value} {t : TypeId} {o : Obj} (h : Box2 w k u v t) (e : V = w.alloc o) : Box2 V k u v t := by rw [e]; exact h.alloc o
theorem IsZ.named {V w : World} {neg : Bool} {sv : Value} {n : Int} {o : Obj} (h : IsZ w neg sv n) (e : V = w.alloc o) : IsZ V neg sv n := by rw [e]; exact h.alloc o
end Go.Proofs.YthoedmikfpbfnaaGreat
end
section
/-
  divide's numbers without signs: parts, signed, over by a number of 64 bits.
-/
namespace Go.Proofs.YthoedmikfpbfnaaGreat
open Go Go.RowKit

def U128 (n : Int) : Prop := 0 ≤ n ∧ n < 340282366920938463463374607431768211456
theorem mag_U {n : Int} (h : W128 n) : U128 (mag n) := by have := mag_W h; unfold U128; omega
theorem hi_U {n : Int} (h : U128 n) : 0 ≤ hi n ∧ hi n < 18446744073709551616 := by unfold U128 at h; unfold hi; omega

set_option maxRecDepth 100000 in
set_option maxHeartbeats 1600000 in
theorem dparts (n : Int) (w : World) (hn : W128 n) :
    Calls Tryz.prog 93 #[.agg #[.int .i64 (hi n), .int .u64 (lo n)]] w (fun e w' => e = .returned (.tuple #[.agg #[.int .u64 (hi (mag n)), .int .u64 (lo (mag n))], .bool (decide (n < 0))]) ∧ Ext w w') := by
  have r102 := run_sub64'
  obtain ⟨a0, a1⟩ := lo_bd n
  obtain ⟨a2, a3⟩ := hi_bd hn
  have c0 : 0 ≤ bor 0 (lo n) 0 := by rw [bor_def]; omega
  have c1 : bor 0 (lo n) 0 ≤ 1 := by rw [bor_def]; omega
  have u1 := u64_nonneg (hi n)
  have u2 := u64_lt (hi n)
  go_enter Tryz.func93, Tryz.ntmps93
  go_wp2
  · clear r102
    have e3 : n < 0 ↔ hi n < 0 := (hi_neg n).symm
    have e4 : decide (n < 0) = false := decide_eq_false (by omega)
    rw [mag_pos (n := n) (by omega), e4]
    refine bodyPost_ret (v := .tuple #[.agg #[.int .u64 (hi n), .int .u64 (lo n)], .bool false]) (by simp [results, Tryz.results93, go_sem]) rfl ⟨rfl, (by repeat (first | exact Ext.refl _ | refine Ext.alloc ?_ | refine Ext.drew ?_ | refine Ext.drewN ?_ | refine Ext.set ?_ (Ext.size ?_) | refine Ext.set ?_ (Ext.size1 ?_) | refine Ext.set ?_ (Ext.size2 ?_) | refine Ext.trans ?_ (by assumption)))⟩
  · clear r102
    have e3 : n < 0 ↔ hi n < 0 := (hi_neg n).symm
    have e4 : decide (n < 0) = true := decide_eq_true (by omega)
    rw [mag_neg (n := n) (by omega), e4]
    have e5 : (-IntKind.u64.wrap (hi n) - bor 0 (lo n) 0) % 18446744073709551616 = hi (-n) := by rw [u64_eq, bor_def]; unfold W128 at hn; unfold hi lo; omega
    have e6 : -lo n % 18446744073709551616 = lo (-n) := by unfold lo; omega
    refine bodyPost_ret (v := .tuple #[.agg #[.int .u64 (hi (-n)), .int .u64 (lo (-n))], .bool true]) (by simp [results, Tryz.results93, go_sem, e5, e6]) rfl ⟨rfl, (by repeat (first | exact Ext.refl _ | refine Ext.alloc ?_ | refine Ext.drew ?_ | refine Ext.drewN ?_ | refine Ext.set ?_ (Ext.size ?_) | refine Ext.set ?_ (Ext.size1 ?_) | refine Ext.set ?_ (Ext.size2 ?_) | refine Ext.trans ?_ (by assumption)))⟩

set_option maxRecDepth 100000 in
set_option maxHeartbeats 1600000 in
theorem dsigned (n : Int) (neg : Bool) (w : World) (hn : U128 n) :
    Calls Tryz.prog 96 #[.agg #[.int .u64 (hi n), .int .u64 (lo n)], .bool neg] w (RetT w (wsg neg n)) := by
  have H1 := Lib.hid wneg
  obtain ⟨a0, a1⟩ := lo_bd n
  obtain ⟨a2, a3⟩ := hi_U hn
  by_cases hs : n < 170141183460469231731687303715884105728
  · have hW : W128 n := by unfold U128 at hn; unfold W128; omega
    have hWn : W128 (-n) := by unfold U128 at hn; unfold W128; omega
    have h63 : hi n ≤ 9223372036854775807 := by unfold hi; omega
    clear hs
    cases neg
    · go_enter Tryz.func96, Tryz.ntmps96
      go_wp2_with fail
      refine bodyPost_ret (v := .tuple #[.agg #[.int .i64 (hi n), .int .u64 (lo n)], .int .i64 0]) (by simp [results, Tryz.results96, go_sem]) rfl (retT_yes hW rfl rfl (by repeat (first | exact Ext.refl _ | refine Ext.alloc ?_ | refine Ext.drew ?_ | refine Ext.drewN ?_ | refine Ext.set ?_ (Ext.size ?_) | refine Ext.set ?_ (Ext.size1 ?_) | refine Ext.set ?_ (Ext.size2 ?_) | refine Ext.trans ?_ (by assumption))))
    · go_enter Tryz.func96, Tryz.ntmps96
      go_wp2_with fail
      refine (H1.out _ _ hW).mono ?_
      rintro e w1 ⟨rfl, x1⟩
      have q := (((Box2.new (w := w.alloc (.cells #[.int .u64 (hi n), .int .u64 (lo n)] 139)) (u := .int .i64 0) (v := .int .u64 0) (t := 42) rfl).alloc (.cells #[.int .i64 (hi n), .int .u64 (lo n)] 42)).ext x1)
      rw [World.size_alloc] at q
      have q0 := q.c0
      have q1 := q.c1
      have q2 := q.f0
      have q3 := q.f1
      go_wp2_with fail
      refine bodyPost_ret (v := .tuple #[.agg #[.int .i64 (thi (-n)), .int .u64 (tlo (-n))], .int .i64 (ter (-n))]) (by simp [results, Tryz.results96, go_sem, q0, q1]) rfl ⟨rfl, (Ext.set (Ext.set (Ext.trans (Ext.refl w).alloc.alloc.alloc x1) (by omega)) (by omega))⟩
  · have hno : ¬ W128 n := by unfold W128; omega
    have hx : wrap64 (hi n) = hi n - 18446744073709551616 := by unfold U128 at hn; unfold hi wrap64; omega
    have hl : hi n - 18446744073709551616 < 0 := by omega
    cases neg
    · go_enter Tryz.func96, Tryz.ntmps96
      go_wp2_with fail
      all_goals
        refine bodyPost_ret (v := .tuple #[.agg #[.int .i64 0, .int .u64 0], .int .i64 2]) (by simp [results, Tryz.results96, go_sem]) rfl (retT_no hno (by repeat (first | exact Ext.refl _ | refine Ext.alloc ?_ | refine Ext.drew ?_ | refine Ext.drewN ?_ | refine Ext.set ?_ (Ext.size ?_) | refine Ext.set ?_ (Ext.size1 ?_) | refine Ext.set ?_ (Ext.size2 ?_) | refine Ext.trans ?_ (by assumption))))
    · by_cases he : n = 170141183460469231731687303715884105728
      · have e1 : hi n = 9223372036854775808 := by rw [he]; rfl
        have e2 : lo n = 0 := by rw [he]; rfl
        have e3 : hi (-n) = -9223372036854775808 := by rw [he]; rfl
        have e4 : lo (-n) = 0 := by rw [he]; rfl
        have hWn : W128 (-n) := by unfold W128; omega
        have E3 := Lib.hid e3
        have E4 := Lib.hid e4
        rw [e1, e2]
        clear hx hl hno hs he e1 e2 e3 e4 a0 a1 a2 a3
        have ew : wrap64 9223372036854775808 = -9223372036854775808 := by unfold wrap64; omega
        go_enter Tryz.func96, Tryz.ntmps96
        go_wp2_with fail
        refine bodyPost_ret (v := .tuple #[.agg #[.int .i64 (-9223372036854775808), .int .u64 0], .int .i64 0]) (by simp [results, Tryz.results96, go_sem]) rfl (retT_yes hWn E3.out.symm E4.out.symm (by repeat (first | exact Ext.refl _ | refine Ext.alloc ?_ | refine Ext.drew ?_ | refine Ext.drewN ?_ | refine Ext.set ?_ (Ext.size ?_) | refine Ext.set ?_ (Ext.size1 ?_) | refine Ext.set ?_ (Ext.size2 ?_) | refine Ext.trans ?_ (by assumption))))
      · have hnn : ¬ W128 (-n) := by unfold W128; omega
        have hne : ¬ (hi n - 18446744073709551616 = -9223372036854775808 ∧ lo n = 0) := by
          rintro ⟨g1, g2⟩
          have := hi_lo n
          omega
        clear he
        go_enter Tryz.func96, Tryz.ntmps96
        go_wp2_with fail
        all_goals
          refine bodyPost_ret (v := .tuple #[.agg #[.int .i64 0, .int .u64 0], .int .i64 2]) (by simp [results, Tryz.results96, go_sem]) rfl (retT_no hnn (by repeat (first | exact Ext.refl _ | refine Ext.alloc ?_ | refine Ext.drew ?_ | refine Ext.drewN ?_ | refine Ext.set ?_ (Ext.size ?_) | refine Ext.set ?_ (Ext.size1 ?_) | refine Ext.set ?_ (Ext.size2 ?_) | refine Ext.trans ?_ (by assumption))))

/-- A quotient and a rest of numbers without a sign. -/
def RetB (w : World) (q r : Int) (e : Ending) (w' : World) : Prop := e = .returned (.tuple #[.agg #[.int .u64 (hi q), .int .u64 (lo q)], .agg #[.int .u64 (hi r), .int .u64 (lo r)]]) ∧ Ext w w'
theorem small_hl {x : Int} (h0 : 0 ≤ x) (h1 : x < 18446744073709551616) : hi x = 0 ∧ lo x = x := by unfold hi lo; omega
theorem long_div (b d : Int) (d0 : 0 < d) (d1 : d < 18446744073709551616) :
    hi (b / d) = hi b / d ∧ lo (b / d) = (hi b % d * 18446744073709551616 + lo b) / d ∧ b % d = (hi b % d * 18446744073709551616 + lo b) % d ∧ True := by
  have e := hi_lo b
  obtain ⟨l0, l1⟩ := lo_bd b
  have e1 := Int.emod_add_mul_ediv (hi b) d
  have s0 := Int.emod_nonneg (hi b) (show d ≠ 0 by omega)
  have s1 := Int.emod_lt_of_pos (hi b) d0
  have e2 : b = (hi b % d * 18446744073709551616 + lo b) + d * (hi b / d * 18446744073709551616) := by
    have : d * (hi b / d * 18446744073709551616) = (d * (hi b / d)) * 18446744073709551616 := by rw [Int.mul_assoc]
    rw [this]
    generalize d * (hi b / d) = X at *
    omega
  have g1 : b / d = (hi b % d * 18446744073709551616 + lo b) / d + hi b / d * 18446744073709551616 := by
    conv => lhs; rw [e2]
    rw [Int.add_mul_ediv_left _ _ (by omega)]
  have g2 : b % d = (hi b % d * 18446744073709551616 + lo b) % d := by
    conv => lhs; rw [e2]
    rw [Int.add_mul_emod_self_left]
  have h0 : 0 ≤ (hi b % d * 18446744073709551616 + lo b) / d := Int.ediv_nonneg (by omega) (by omega)
  have h1 : (hi b % d * 18446744073709551616 + lo b) / d < 18446744073709551616 := Int.ediv_lt_of_lt_mul d0 (by omega)
  rw [g1]
  generalize (hi b % d * 18446744073709551616 + lo b) / d = q at *
  refine ⟨?_, ?_, g2, trivial⟩
  · unfold hi at *; omega
  · unfold lo at *; omega
set_option maxRecDepth 100000 in
set_option maxHeartbeats 1600000 in
theorem over_small (b d : Int) (w : World) (hb : U128 b) (d0 : 0 < d) (d1 : d < 18446744073709551616) :
    Calls Tryz.prog 95 #[.agg #[.int .u64 (hi b), .int .u64 (lo b)], .agg #[.int .u64 (hi d), .int .u64 (lo d)]] w (RetB w (b / d) (b % d)) := by
  obtain ⟨a0, a1⟩ := lo_bd b
  obtain ⟨a2, a3⟩ := hi_U hb
  obtain ⟨e1, e2⟩ := small_hl (by omega) d1
  rw [e1, e2]
  have r0 := Int.emod_nonneg b (show d ≠ 0 by omega)
  have r1 := Int.emod_lt_of_pos b d0
  obtain ⟨e3, e4⟩ := small_hl r0 (show b % d < 18446744073709551616 by omega)
  have HR := Lib.hid (show hi (b % d) = 0 ∧ lo (b % d) = b % d from ⟨e3, e4⟩)
  clear e1 e2 e3 e4
  by_cases hs : hi b = 0
  · have hb0 : b = lo b := by have := hi_lo b; omega
    have q0 : 0 ≤ lo b / d := Int.ediv_nonneg a0 (by omega)
    have q1 : lo b / d ≤ lo b := Int.ediv_le_self _ a0
    have s0 := Int.emod_nonneg (lo b) (show d ≠ 0 by omega)
    have s1 := Int.emod_lt_of_pos (lo b) d0
    have HB := Lib.hid hb0
    have HS := Lib.hid hs
    rw [hs]
    clear hs hb0 r0 r1
    go_enter Tryz.func95, Tryz.ntmps95
    go_wp2_with fail
    go_region
    go_wp2_with fail
    have hb0 := HB.out
    obtain ⟨f1, f2⟩ := small_hl q0 (show lo b / d < 18446744073709551616 by omega)
    obtain ⟨f3, f4⟩ := small_hl s0 (show lo b % d < 18446744073709551616 by omega)
    refine bodyPost_ret (v := .tuple #[.agg #[.int .u64 0, .int .u64 (lo b / d)], .agg #[.int .u64 0, .int .u64 (lo b % d)]]) (by simp [results, Tryz.results95, go_sem]) rfl ⟨?_, (by repeat (first | exact Ext.refl _ | refine Ext.alloc ?_ | refine Ext.drew ?_ | refine Ext.drewN ?_ | refine Ext.set ?_ (Ext.size ?_) | refine Ext.set ?_ (Ext.size1 ?_) | refine Ext.set ?_ (Ext.size2 ?_) | refine Ext.trans ?_ (by assumption)))⟩
    rw [show b / d = lo b / d from congrArg (· / d) hb0, show b % d = lo b % d from congrArg (· % d) hb0, f1, f2, f3, f4]
  · have hs' : (hi b == 0) = false := by simpa using hs
    have H1 := Lib.hid div64
    obtain ⟨k1, k2, k3, k4⟩ := long_div b d d0 d1
    have q0 : 0 ≤ hi b / d := Int.ediv_nonneg a2 (by omega)
    have q1 : hi b / d ≤ hi b := Int.ediv_le_self _ a2
    have s0 := Int.emod_nonneg (hi b) (show d ≠ 0 by omega)
    have s1 := Int.emod_lt_of_pos (hi b) d0
    have K1 := Lib.hid k1
    have K2 := Lib.hid k2
    have K3 := Lib.hid k3
    clear k1 k2 k3 k4 hs r0 r1
    go_enter Tryz.func95, Tryz.ntmps95
    go_wp2_with fail
    go_region
    go_wp2_with fail
    refine (H1.out _ _ _ _ s0 s1 d1 a0 a1).mono ?_
    rintro e w1 ⟨rfl, x1⟩
    rw [← K2.out, ← K3.out]
    have c := (((Box2.new (w := (w.alloc (.cells #[.int .u64 (hi b), .int .u64 (lo b)] 139)).alloc (.cells #[.int .u64 0, .int .u64 d] 139)) (u := .int .u64 0) (v := .int .u64 0) (t := 139) rfl).alloc (.cells #[.int .u64 0, .int .u64 0] 139)).drew).ext x1
    have c' := ((Box2.new (w := ((w.alloc (.cells #[.int .u64 (hi b), .int .u64 (lo b)] 139)).alloc (.cells #[.int .u64 0, .int .u64 d] 139)).alloc (.cells #[.int .u64 0, .int .u64 0] 139)) (u := .int .u64 0) (v := .int .u64 0) (t := 139) rfl).drew).ext x1
    simp only [World.size_alloc] at c c'
    have xw : Ext w w1 := Ext.trans (Ext.refl w).alloc.alloc.alloc.alloc.drew x1
    have z1 := c.kind.lt
    have z2 := c'.kind.lt
    have c0 := c.c0
    have c1 := c.c1
    have c2 := c.f0
    have c3 := c.f1
    have c4 := c'.c0
    have c5 := c'.c1
    have c6 := c'.f0
    have c7 := c'.f1
    go_wp2_with fail
    refine bodyPost_ret (v := .tuple #[.agg #[.int .u64 (hi b / d), .int .u64 (lo (b / d))], .agg #[.int .u64 0, .int .u64 (b % d)]]) (by simp [results, Tryz.results95, go_sem, c0, c1, c4, c5]) rfl ⟨by rw [K1.out, HR.out.1, HR.out.2], ?_⟩
    exact Ext.set (Ext.set (Ext.set (Ext.set xw (by omega)) (by omega)) (by omega)) (by omega)
end Go.Proofs.YthoedmikfpbfnaaGreat

/-
  divide.Trunc.
-/
namespace Go.Proofs.YthoedmikfpbfnaaGreat
open Go Go.RowKit

theorem tdiv_mag (a b : Int) : wsg (!(decide (a < 0) == decide (b < 0))) (mag a / mag b) = a.tdiv b := by
  by_cases ha : a < 0 <;> by_cases hb : b < 0
  · rw [decide_eq_true ha, decide_eq_true hb, mag_neg ha, mag_neg hb]
    show -a / -b = _
    rw [← Int.tdiv_eq_ediv_of_nonneg (by omega), Int.neg_tdiv, Int.tdiv_neg]; simp
  · rw [decide_eq_true ha, decide_eq_false hb, mag_neg ha, mag_pos (by omega)]
    show -(-a / b) = _
    rw [← Int.tdiv_eq_ediv_of_nonneg (by omega), Int.neg_tdiv]; simp
  · rw [decide_eq_false ha, decide_eq_true hb, mag_neg hb, mag_pos (by omega)]
    show -(a / -b) = _
    rw [← Int.tdiv_eq_ediv_of_nonneg (by omega), Int.tdiv_neg]; simp
  · rw [decide_eq_false ha, decide_eq_false hb, mag_pos (by omega), mag_pos (by omega)]
    show a / b = _
    rw [Int.tdiv_eq_ediv_of_nonneg (by omega)]
theorem tmod_mag (a b : Int) : wsg (decide (a < 0)) (mag a % mag b) = a.tmod b := by
  have key : ∀ x : Int, 0 ≤ x → x % mag b = x.tmod b := by
    intro x hx
    by_cases hb : b < 0
    · rw [mag_neg hb, ← Int.tmod_eq_emod_of_nonneg hx, Int.tmod_neg]
    · rw [mag_pos (by omega), Int.tmod_eq_emod_of_nonneg hx]
  by_cases ha : a < 0
  · rw [decide_eq_true ha, mag_neg ha, wsg_t, key _ (by omega), Int.neg_tmod]; simp
  · rw [decide_eq_false ha, mag_pos (by omega), wsg_f, key _ (by omega)]
def qh (q r : Int) : Int := if W128 q then hi r else 0
def ql (q r : Int) : Int := if W128 q then lo r else 0
/-- A call that returns a quotient, a rest and 0, or none and 2. -/
def RetQ (w : World) (q r : Int) (e : Ending) (w' : World) : Prop :=
  e = .returned (.tuple #[.agg #[.int .i64 (thi q), .int .u64 (tlo q)], .agg #[.int .i64 (qh q r), .int .u64 (ql q r)], .int .i64 (ter q)]) ∧ Ext w w'
theorem retQ_yes {w w' : World} {q r : Int} (h : W128 q) (x : Ext w w') : RetQ w q r (.returned (.tuple #[.agg #[.int .i64 (hi q), .int .u64 (lo q)], .agg #[.int .i64 (hi r), .int .u64 (lo r)], .int .i64 0])) w' := by
  refine ⟨?_, x⟩
  rw [thi_yes h, tlo_yes h, ter_yes h, show qh q r = hi r from if_pos h, show ql q r = lo r from if_pos h]
theorem retQ_no {w w' : World} {q r : Int} (h : ¬ W128 q) (x : Ext w w') : RetQ w q r (.returned (.tuple #[.agg #[.int .i64 0, .int .u64 0], .agg #[.int .i64 0, .int .u64 0], .int .i64 2])) w' := by
  refine ⟨?_, x⟩
  rw [thi_no h, tlo_no h, ter_no h, show qh q r = 0 from if_neg h, show ql q r = 0 from if_neg h]
/-- over is right at b and d. -/
def OverC (b d : Int) : Prop := ∀ w, Calls Tryz.prog 95 #[.agg #[.int .u64 (hi b), .int .u64 (lo b)], .agg #[.int .u64 (hi d), .int .u64 (lo d)]] w (RetB w (b / d) (b % d))
theorem mag_zero {b : Int} (h : b ≠ 0) : 0 < mag b := by unfold mag; split <;> omega
theorem div_U {a b : Int} (ha : W128 a) (hb : W128 b) (h : b ≠ 0) : U128 (mag a / mag b) ∧ U128 (mag a % mag b) := by
  have h0 := mag_zero h
  have h1 := mag_W ha
  have h2 := mag_W hb
  have := Int.ediv_le_self (mag b) h1.1
  have := Int.ediv_nonneg h1.1 h2.1
  have := Int.emod_nonneg (mag a) (show mag b ≠ 0 by omega)
  have := Int.emod_lt_of_pos (mag a) h0
  unfold U128
  omega
theorem tmod_W {a b : Int} (hb : W128 b) (h : b ≠ 0) : W128 (a.tmod b) := by
  rw [← tmod_mag]
  have h0 := mag_zero h
  have h2 := mag_W hb
  have := Int.emod_nonneg (mag a) (show mag b ≠ 0 by omega)
  have := Int.emod_lt_of_pos (mag a) h0
  unfold W128
  cases decide (a < 0)
  · rw [wsg_f]; omega
  · rw [wsg_t]; omega

theorem Box2.named2 {V w : World} {k : Nat} {u v : Value} {t : TypeId} {o o' : Obj} (h : Box2 w k u v t) (e : V = (w.alloc o).alloc o') : Box2 V k u v t := by rw [e]; exact (h.alloc o).alloc o'
set_option maxRecDepth 100000 in
set_option maxHeartbeats 3200000 in
theorem dtrunc (a b : Int) (w : World) (ha : W128 a) (hb : W128 b) (h0 : b ≠ 0) (ho : OverC (mag a) (mag b)) :
    Calls Tryz.prog 139 #[.agg #[.int .i64 (hi a), .int .u64 (lo a)], .agg #[.int .i64 (hi b), .int .u64 (lo b)]] w (RetQ w (a.tdiv b) (a.tmod b)) := by
  have H1 := Lib.hid dparts
  have H2 := Lib.hid ho
  have H3 := Lib.hid dsigned
  obtain ⟨u1, u2⟩ := div_U ha hb h0
  have E1 := Lib.hid (tdiv_mag a b)
  have E2 := Lib.hid (tmod_mag a b)
  have hrW := tmod_W (a := a) hb h0
  have hz : ¬ (hi b = 0 ∧ lo b = 0) := by rintro ⟨g1, g2⟩; have := hi_lo b; omega
  clear ho
  by_cases hz1 : hi b = 0
  · have g1 : (hi b == 0) = true := by simpa using hz1
    have g2 : (lo b == 0) = false := by simpa using fun h => hz ⟨hz1, h⟩
    clear hz hz1
    go_enter Tryz.func139, Tryz.ntmps139
    go_wp2_with fail
    obtain ⟨W, hW⟩ : ∃ W, W = (((w.alloc (.cells #[.int .i64 (hi a), .int .u64 (lo a)] 42)).alloc (.cells #[.int .i64 (hi b), .int .u64 (lo b)] 42)).alloc (.cells #[.int .i64 0, .int .u64 0] 42)).alloc (.cells #[.int .i64 0, .int .u64 0] 42) := ⟨_, rfl⟩
    rw [← hW]
    have hB : Box2 W (w.heap.size + 1) (.int .i64 (hi b)) (.int .u64 (lo b)) 42 := by rw [hW]; exact ((Box2.new (by simp)).alloc _).alloc _
    have hR : Box2 W (w.heap.size + 1 + 1) (.int .i64 0) (.int .u64 0) 42 := by rw [hW]; exact (Box2.new (by simp)).alloc _
    have hS : Box2 W (w.heap.size + 1 + 1 + 1) (.int .i64 0) (.int .u64 0) 42 := by rw [hW]; exact Box2.new (by simp)
    have xw : Ext w W := by rw [hW]; exact (Ext.refl w).alloc.alloc.alloc.alloc
    clear hW
    refine (H1.out _ _ ha).mono ?_
    rintro e w1 ⟨rfl, x1⟩
    (first | replace xw := Ext.trans xw x1 | replace xw := Ext.trans (Ext.alloc xw) x1 | replace xw := Ext.trans (Ext.drew xw) x1 | replace xw := Ext.trans (Ext.alloc (Ext.drew xw)) x1); (first | replace hB := hB.ext x1 | replace hB := (hB.alloc _).ext x1 | replace hB := hB.drew.ext x1 | replace hB := (hB.drew.alloc _).ext x1); (first | replace hR := hR.ext x1 | replace hR := (hR.alloc _).ext x1 | replace hR := hR.drew.ext x1 | replace hR := (hR.drew.alloc _).ext x1); (first | replace hS := hS.ext x1 | replace hS := (hS.alloc _).ext x1 | replace hS := hS.drew.ext x1 | replace hS := (hS.drew.alloc _).ext x1)
    have hX : Box2 (w1.alloc (.cells #[.int .u64 (hi (mag a)), .int .u64 (lo (mag a))] 139)) w1.heap.size (.int .u64 (hi (mag a))) (.int .u64 (lo (mag a))) 139 := Box2.new rfl
    replace hB := hB.alloc (.cells #[.int .u64 (hi (mag a)), .int .u64 (lo (mag a))] 139)
    replace hR := hR.alloc (.cells #[.int .u64 (hi (mag a)), .int .u64 (lo (mag a))] 139)
    replace hS := hS.alloc (.cells #[.int .u64 (hi (mag a)), .int .u64 (lo (mag a))] 139)
    have hB_0 := hB.c0; have hB_1 := hB.c1
    go_wp2_with fail
    clear hB_0 hB_1
    refine (H1.out _ _ hb).mono ?_
    rintro e w2 ⟨rfl, x2⟩
    clear hB
    (first | replace xw := Ext.trans xw x2 | replace xw := Ext.trans (Ext.alloc xw) x2 | replace xw := Ext.trans (Ext.drew xw) x2 | replace xw := Ext.trans (Ext.alloc (Ext.drew xw)) x2); (first | replace hX := hX.ext x2 | replace hX := (hX.alloc _).ext x2 | replace hX := hX.drew.ext x2 | replace hX := (hX.drew.alloc _).ext x2); (first | replace hR := hR.ext x2 | replace hR := (hR.alloc _).ext x2 | replace hR := hR.drew.ext x2 | replace hR := (hR.drew.alloc _).ext x2); (first | replace hS := hS.ext x2 | replace hS := (hS.alloc _).ext x2 | replace hS := hS.drew.ext x2 | replace hS := (hS.drew.alloc _).ext x2)
    have hY : Box2 (w2.alloc (.cells #[.int .u64 (hi (mag b)), .int .u64 (lo (mag b))] 139)) w2.heap.size (.int .u64 (hi (mag b))) (.int .u64 (lo (mag b))) 139 := Box2.new rfl
    replace hX := hX.alloc (.cells #[.int .u64 (hi (mag b)), .int .u64 (lo (mag b))] 139)
    replace hR := hR.alloc (.cells #[.int .u64 (hi (mag b)), .int .u64 (lo (mag b))] 139)
    replace hS := hS.alloc (.cells #[.int .u64 (hi (mag b)), .int .u64 (lo (mag b))] 139)
    have hX_0 := hX.c0; have hX_1 := hX.c1; have hY_0 := hY.c0; have hY_1 := hY.c1
    go_wp2_with fail
    clear hX_0 hX_1 hY_0 hY_1
    clear hX hY
    refine (H2.out _).mono ?_
    rintro e w3 ⟨rfl, x3⟩
    (first | replace xw := Ext.trans xw x3 | replace xw := Ext.trans (Ext.alloc xw) x3 | replace xw := Ext.trans (Ext.drew xw) x3 | replace xw := Ext.trans (Ext.alloc (Ext.drew xw)) x3); (first | replace hR := hR.ext x3 | replace hR := (hR.alloc _).ext x3 | replace hR := hR.drew.ext x3 | replace hR := (hR.drew.alloc _).ext x3); (first | replace hS := hS.ext x3 | replace hS := (hS.alloc _).ext x3 | replace hS := hS.drew.ext x3 | replace hS := (hS.drew.alloc _).ext x3)
    obtain ⟨V, hV⟩ : ∃ V, V = (w3.alloc (.cells #[.int .u64 (hi (mag a / mag b)), .int .u64 (lo (mag a / mag b))] 139)).alloc (.cells #[.int .u64 (hi (mag a % mag b)), .int .u64 (lo (mag a % mag b))] 139) := ⟨_, rfl⟩
    have hP : Box2 ((w3.alloc (.cells #[.int .u64 (hi (mag a / mag b)), .int .u64 (lo (mag a / mag b))] 139)).alloc (.cells #[.int .u64 (hi (mag a % mag b)), .int .u64 (lo (mag a % mag b))] 139)) w3.heap.size (.int .u64 (hi (mag a / mag b))) (.int .u64 (lo (mag a / mag b))) 139 := (Box2.new rfl).alloc _
    have hQ : Box2 ((w3.alloc (.cells #[.int .u64 (hi (mag a / mag b)), .int .u64 (lo (mag a / mag b))] 139)).alloc (.cells #[.int .u64 (hi (mag a % mag b)), .int .u64 (lo (mag a % mag b))] 139)) (w3.heap.size + 1) (.int .u64 (hi (mag a % mag b))) (.int .u64 (lo (mag a % mag b))) 139 := Box2.new (by simp)
    have hP_0 := hP.c0; have hP_1 := hP.c1
    go_wp2_with fail
    clear hP_0 hP_1
    clear hP
    replace hR := hR.named2 hV
    replace hS := hS.named2 hV
    rw [← hV] at hQ ⊢
    replace xw : Ext w V := by rw [hV]; exact Ext.alloc (Ext.alloc xw)
    clear hV x1 x2 x3
    refine (H3.out _ _ _ u1).mono ?_
    rw [E1.out]
    rintro e w4 ⟨rfl, x4⟩
    (first | replace xw := Ext.trans xw x4 | replace xw := Ext.trans (Ext.alloc xw) x4 | replace xw := Ext.trans (Ext.drew xw) x4 | replace xw := Ext.trans (Ext.alloc (Ext.drew xw)) x4); (first | replace hQ := hQ.ext x4 | replace hQ := (hQ.alloc _).ext x4 | replace hQ := hQ.drew.ext x4 | replace hQ := (hQ.drew.alloc _).ext x4); (first | replace hR := hR.ext x4 | replace hR := (hR.alloc _).ext x4 | replace hR := hR.drew.ext x4 | replace hR := (hR.drew.alloc _).ext x4); (first | replace hS := hS.ext x4 | replace hS := (hS.alloc _).ext x4 | replace hS := hS.drew.ext x4 | replace hS := (hS.drew.alloc _).ext x4)
    have y4 := hS.kind.lt
    by_cases hq : W128 (a.tdiv b)
    · rw [thi_yes hq, tlo_yes hq, ter_yes hq]
      have hN : Box2 (w4.alloc (.cells #[.int .i64 (hi (a.tdiv b)), .int .u64 (lo (a.tdiv b))] 42)) w4.heap.size (.int .i64 (hi (a.tdiv b))) (.int .u64 (lo (a.tdiv b))) 42 := Box2.new rfl
      replace hQ := hQ.alloc (.cells #[.int .i64 (hi (a.tdiv b)), .int .u64 (lo (a.tdiv b))] 42)
      replace hR := hR.alloc (.cells #[.int .i64 (hi (a.tdiv b)), .int .u64 (lo (a.tdiv b))] 42)
      replace hS := hS.alloc (.cells #[.int .i64 (hi (a.tdiv b)), .int .u64 (lo (a.tdiv b))] 42)
      have hQ_0 := hQ.c0; have hQ_1 := hQ.c1
      go_wp2_with fail
      clear hQ_0 hQ_1
      clear hQ
      refine (H3.out _ _ _ u2).mono ?_
      rw [E2.out]
      rintro e w5 ⟨rfl, x5⟩
      rw [thi_yes hrW, tlo_yes hrW, ter_yes hrW]
      (first | replace xw := Ext.trans xw x5 | replace xw := Ext.trans (Ext.alloc xw) x5 | replace xw := Ext.trans (Ext.drew xw) x5 | replace xw := Ext.trans (Ext.alloc (Ext.drew xw)) x5); (first | replace hN := hN.ext x5 | replace hN := (hN.alloc _).ext x5 | replace hN := hN.drew.ext x5 | replace hN := (hN.drew.alloc _).ext x5); (first | replace hR := hR.ext x5 | replace hR := (hR.alloc _).ext x5 | replace hR := hR.drew.ext x5 | replace hR := (hR.drew.alloc _).ext x5); (first | replace hS := hS.ext x5 | replace hS := (hS.alloc _).ext x5 | replace hS := hS.drew.ext x5 | replace hS := (hS.drew.alloc _).ext x5)
      have y5 := hS.kind.lt
      have hM : Box2 (w5.alloc (.cells #[.int .i64 (hi (a.tmod b)), .int .u64 (lo (a.tmod b))] 42)) w5.heap.size (.int .i64 (hi (a.tmod b))) (.int .u64 (lo (a.tmod b))) 42 := Box2.new rfl
      replace hN := hN.alloc (.cells #[.int .i64 (hi (a.tmod b)), .int .u64 (lo (a.tmod b))] 42)
      replace hR := hR.alloc (.cells #[.int .i64 (hi (a.tmod b)), .int .u64 (lo (a.tmod b))] 42)
      replace hS := hS.alloc (.cells #[.int .i64 (hi (a.tmod b)), .int .u64 (lo (a.tmod b))] 42)
      go_wp2_with fail
      obtain ⟨U, hU⟩ : ∃ U, U = w5.alloc (.cells #[.int .i64 (hi (a.tmod b)), .int .u64 (lo (a.tmod b))] 42) := ⟨_, rfl⟩
      replace xw : Ext w U := by rw [hU]; exact Ext.alloc xw
      rw [← hU] at hM hN hR hS ⊢
      clear hU x4 x5
      have hM_0 := hM.c0; have hM_1 := hM.c1; have hN_0 := hN.c0; have hN_1 := hN.c1; have hR_0 := hR.c0; have hR_1 := hR.c1; have hS_0 := hS.c0; have hS_1 := hS.c1
      have hR_2 := hR.f0; have hR_3 := hR.f1; have hS_2 := hS.f0; have hS_3 := hS.f1
      have n1 : ¬ w4.heap.size = w.heap.size + 1 + 1 := by omega
      have n2 : ¬ w4.heap.size = w.heap.size + 1 + 1 + 1 := by omega
      have n3 : ¬ w5.heap.size = w.heap.size + 1 + 1 := by omega
      have n4 : ¬ w5.heap.size = w.heap.size + 1 + 1 + 1 := by omega
      have n5 : ¬ w.heap.size + 1 + 1 = w4.heap.size := by omega
      have n6 : ¬ w.heap.size + 1 + 1 + 1 = w4.heap.size := by omega
      have n7 : ¬ w.heap.size + 1 + 1 = w5.heap.size := by omega
      have n8 : ¬ w.heap.size + 1 + 1 + 1 = w5.heap.size := by omega
      go_region
      go_wp2_with fail
      refine bodyPost_ret (v := .tuple #[.agg #[.int .i64 (hi (a.tdiv b)), .int .u64 (lo (a.tdiv b))], .agg #[.int .i64 (hi (a.tmod b)), .int .u64 (lo (a.tmod b))], .int .i64 0]) (by simp [results, Tryz.results139, go_sem, hR_0, hR_1, hS_0, hS_1]) rfl (retQ_yes hq ?_)
      exact Ext.drew (Ext.set (Ext.set (Ext.set (Ext.set xw (by omega)) (by omega)) (by omega)) (by omega))
    · rw [thi_no hq, tlo_no hq, ter_no hq]
      replace hR := hR.alloc (.cells #[.int .i64 0, .int .u64 0] 42)
      replace hS := hS.alloc (.cells #[.int .i64 0, .int .u64 0] 42)
      have hR_0 := hR.c0; have hR_1 := hR.c1; have hS_0 := hS.c0; have hS_1 := hS.c1
      have hR_2 := hR.f0; have hR_3 := hR.f1; have hS_2 := hS.f0; have hS_3 := hS.f1
      go_wp2_with fail
      refine bodyPost_ret (v := .tuple #[.agg #[.int .i64 0, .int .u64 0], .agg #[.int .i64 0, .int .u64 0], .int .i64 2]) (by simp [results, Tryz.results139, go_sem, hR_0, hR_1, hS_0, hS_1]) rfl (retQ_no hq ?_)
      exact Ext.set (Ext.set (Ext.set (Ext.set (Ext.alloc xw) (by omega)) (by omega)) (by omega)) (by omega)
  · have g1 : (hi b == 0) = false := by simpa using hz1
    clear hz hz1
    go_enter Tryz.func139, Tryz.ntmps139
    go_wp2_with fail
    obtain ⟨W, hW⟩ : ∃ W, W = (((w.alloc (.cells #[.int .i64 (hi a), .int .u64 (lo a)] 42)).alloc (.cells #[.int .i64 (hi b), .int .u64 (lo b)] 42)).alloc (.cells #[.int .i64 0, .int .u64 0] 42)).alloc (.cells #[.int .i64 0, .int .u64 0] 42) := ⟨_, rfl⟩
    rw [← hW]
    have hB : Box2 W (w.heap.size + 1) (.int .i64 (hi b)) (.int .u64 (lo b)) 42 := by rw [hW]; exact ((Box2.new (by simp)).alloc _).alloc _
    have hR : Box2 W (w.heap.size + 1 + 1) (.int .i64 0) (.int .u64 0) 42 := by rw [hW]; exact (Box2.new (by simp)).alloc _
    have hS : Box2 W (w.heap.size + 1 + 1 + 1) (.int .i64 0) (.int .u64 0) 42 := by rw [hW]; exact Box2.new (by simp)
    have xw : Ext w W := by rw [hW]; exact (Ext.refl w).alloc.alloc.alloc.alloc
    clear hW
    refine (H1.out _ _ ha).mono ?_
    rintro e w1 ⟨rfl, x1⟩
    (first | replace xw := Ext.trans xw x1 | replace xw := Ext.trans (Ext.alloc xw) x1 | replace xw := Ext.trans (Ext.drew xw) x1 | replace xw := Ext.trans (Ext.alloc (Ext.drew xw)) x1); (first | replace hB := hB.ext x1 | replace hB := (hB.alloc _).ext x1 | replace hB := hB.drew.ext x1 | replace hB := (hB.drew.alloc _).ext x1); (first | replace hR := hR.ext x1 | replace hR := (hR.alloc _).ext x1 | replace hR := hR.drew.ext x1 | replace hR := (hR.drew.alloc _).ext x1); (first | replace hS := hS.ext x1 | replace hS := (hS.alloc _).ext x1 | replace hS := hS.drew.ext x1 | replace hS := (hS.drew.alloc _).ext x1)
    have hX : Box2 (w1.alloc (.cells #[.int .u64 (hi (mag a)), .int .u64 (lo (mag a))] 139)) w1.heap.size (.int .u64 (hi (mag a))) (.int .u64 (lo (mag a))) 139 := Box2.new rfl
    replace hB := hB.alloc (.cells #[.int .u64 (hi (mag a)), .int .u64 (lo (mag a))] 139)
    replace hR := hR.alloc (.cells #[.int .u64 (hi (mag a)), .int .u64 (lo (mag a))] 139)
    replace hS := hS.alloc (.cells #[.int .u64 (hi (mag a)), .int .u64 (lo (mag a))] 139)
    have hB_0 := hB.c0; have hB_1 := hB.c1
    go_wp2_with fail
    clear hB_0 hB_1
    refine (H1.out _ _ hb).mono ?_
    rintro e w2 ⟨rfl, x2⟩
    clear hB
    (first | replace xw := Ext.trans xw x2 | replace xw := Ext.trans (Ext.alloc xw) x2 | replace xw := Ext.trans (Ext.drew xw) x2 | replace xw := Ext.trans (Ext.alloc (Ext.drew xw)) x2); (first | replace hX := hX.ext x2 | replace hX := (hX.alloc _).ext x2 | replace hX := hX.drew.ext x2 | replace hX := (hX.drew.alloc _).ext x2); (first | replace hR := hR.ext x2 | replace hR := (hR.alloc _).ext x2 | replace hR := hR.drew.ext x2 | replace hR := (hR.drew.alloc _).ext x2); (first | replace hS := hS.ext x2 | replace hS := (hS.alloc _).ext x2 | replace hS := hS.drew.ext x2 | replace hS := (hS.drew.alloc _).ext x2)
    have hY : Box2 (w2.alloc (.cells #[.int .u64 (hi (mag b)), .int .u64 (lo (mag b))] 139)) w2.heap.size (.int .u64 (hi (mag b))) (.int .u64 (lo (mag b))) 139 := Box2.new rfl
    replace hX := hX.alloc (.cells #[.int .u64 (hi (mag b)), .int .u64 (lo (mag b))] 139)
    replace hR := hR.alloc (.cells #[.int .u64 (hi (mag b)), .int .u64 (lo (mag b))] 139)
    replace hS := hS.alloc (.cells #[.int .u64 (hi (mag b)), .int .u64 (lo (mag b))] 139)
    have hX_0 := hX.c0; have hX_1 := hX.c1; have hY_0 := hY.c0; have hY_1 := hY.c1
    go_wp2_with fail
    clear hX_0 hX_1 hY_0 hY_1
    clear hX hY
    refine (H2.out _).mono ?_
    rintro e w3 ⟨rfl, x3⟩
    (first | replace xw := Ext.trans xw x3 | replace xw := Ext.trans (Ext.alloc xw) x3 | replace xw := Ext.trans (Ext.drew xw) x3 | replace xw := Ext.trans (Ext.alloc (Ext.drew xw)) x3); (first | replace hR := hR.ext x3 | replace hR := (hR.alloc _).ext x3 | replace hR := hR.drew.ext x3 | replace hR := (hR.drew.alloc _).ext x3); (first | replace hS := hS.ext x3 | replace hS := (hS.alloc _).ext x3 | replace hS := hS.drew.ext x3 | replace hS := (hS.drew.alloc _).ext x3)
    obtain ⟨V, hV⟩ : ∃ V, V = (w3.alloc (.cells #[.int .u64 (hi (mag a / mag b)), .int .u64 (lo (mag a / mag b))] 139)).alloc (.cells #[.int .u64 (hi (mag a % mag b)), .int .u64 (lo (mag a % mag b))] 139) := ⟨_, rfl⟩
    have hP : Box2 ((w3.alloc (.cells #[.int .u64 (hi (mag a / mag b)), .int .u64 (lo (mag a / mag b))] 139)).alloc (.cells #[.int .u64 (hi (mag a % mag b)), .int .u64 (lo (mag a % mag b))] 139)) w3.heap.size (.int .u64 (hi (mag a / mag b))) (.int .u64 (lo (mag a / mag b))) 139 := (Box2.new rfl).alloc _
    have hQ : Box2 ((w3.alloc (.cells #[.int .u64 (hi (mag a / mag b)), .int .u64 (lo (mag a / mag b))] 139)).alloc (.cells #[.int .u64 (hi (mag a % mag b)), .int .u64 (lo (mag a % mag b))] 139)) (w3.heap.size + 1) (.int .u64 (hi (mag a % mag b))) (.int .u64 (lo (mag a % mag b))) 139 := Box2.new (by simp)
    have hP_0 := hP.c0; have hP_1 := hP.c1
    go_wp2_with fail
    clear hP_0 hP_1
    clear hP
    replace hR := hR.named2 hV
    replace hS := hS.named2 hV
    rw [← hV] at hQ ⊢
    replace xw : Ext w V := by rw [hV]; exact Ext.alloc (Ext.alloc xw)
    clear hV x1 x2 x3
    refine (H3.out _ _ _ u1).mono ?_
    rw [E1.out]
    rintro e w4 ⟨rfl, x4⟩
    (first | replace xw := Ext.trans xw x4 | replace xw := Ext.trans (Ext.alloc xw) x4 | replace xw := Ext.trans (Ext.drew xw) x4 | replace xw := Ext.trans (Ext.alloc (Ext.drew xw)) x4); (first | replace hQ := hQ.ext x4 | replace hQ := (hQ.alloc _).ext x4 | replace hQ := hQ.drew.ext x4 | replace hQ := (hQ.drew.alloc _).ext x4); (first | replace hR := hR.ext x4 | replace hR := (hR.alloc _).ext x4 | replace hR := hR.drew.ext x4 | replace hR := (hR.drew.alloc _).ext x4); (first | replace hS := hS.ext x4 | replace hS := (hS.alloc _).ext x4 | replace hS := hS.drew.ext x4 | replace hS := (hS.drew.alloc _).ext x4)
    have y4 := hS.kind.lt
    by_cases hq : W128 (a.tdiv b)
    · rw [thi_yes hq, tlo_yes hq, ter_yes hq]
      have hN : Box2 (w4.alloc (.cells #[.int .i64 (hi (a.tdiv b)), .int .u64 (lo (a.tdiv b))] 42)) w4.heap.size (.int .i64 (hi (a.tdiv b))) (.int .u64 (lo (a.tdiv b))) 42 := Box2.new rfl
      replace hQ := hQ.alloc (.cells #[.int .i64 (hi (a.tdiv b)), .int .u64 (lo (a.tdiv b))] 42)
      replace hR := hR.alloc (.cells #[.int .i64 (hi (a.tdiv b)), .int .u64 (lo (a.tdiv b))] 42)
      replace hS := hS.alloc (.cells #[.int .i64 (hi (a.tdiv b)), .int .u64 (lo (a.tdiv b))] 42)
      have hQ_0 := hQ.c0; have hQ_1 := hQ.c1
      go_wp2_with fail
      clear hQ_0 hQ_1
      clear hQ
      refine (H3.out _ _ _ u2).mono ?_
      rw [E2.out]
      rintro e w5 ⟨rfl, x5⟩
      rw [thi_yes hrW, tlo_yes hrW, ter_yes hrW]
      (first | replace xw := Ext.trans xw x5 | replace xw := Ext.trans (Ext.alloc xw) x5 | replace xw := Ext.trans (Ext.drew xw) x5 | replace xw := Ext.trans (Ext.alloc (Ext.drew xw)) x5); (first | replace hN := hN.ext x5 | replace hN := (hN.alloc _).ext x5 | replace hN := hN.drew.ext x5 | replace hN := (hN.drew.alloc _).ext x5); (first | replace hR := hR.ext x5 | replace hR := (hR.alloc _).ext x5 | replace hR := hR.drew.ext x5 | replace hR := (hR.drew.alloc _).ext x5); (first | replace hS := hS.ext x5 | replace hS := (hS.alloc _).ext x5 | replace hS := hS.drew.ext x5 | replace hS := (hS.drew.alloc _).ext x5)
      have y5 := hS.kind.lt
      have hM : Box2 (w5.alloc (.cells #[.int .i64 (hi (a.tmod b)), .int .u64 (lo (a.tmod b))] 42)) w5.heap.size (.int .i64 (hi (a.tmod b))) (.int .u64 (lo (a.tmod b))) 42 := Box2.new rfl
      replace hN := hN.alloc (.cells #[.int .i64 (hi (a.tmod b)), .int .u64 (lo (a.tmod b))] 42)
      replace hR := hR.alloc (.cells #[.int .i64 (hi (a.tmod b)), .int .u64 (lo (a.tmod b))] 42)
      replace hS := hS.alloc (.cells #[.int .i64 (hi (a.tmod b)), .int .u64 (lo (a.tmod b))] 42)
      go_wp2_with fail
      obtain ⟨U, hU⟩ : ∃ U, U = w5.alloc (.cells #[.int .i64 (hi (a.tmod b)), .int .u64 (lo (a.tmod b))] 42) := ⟨_, rfl⟩
      replace xw : Ext w U := by rw [hU]; exact Ext.alloc xw
      rw [← hU] at hM hN hR hS ⊢
      clear hU x4 x5
      have hM_0 := hM.c0; have hM_1 := hM.c1; have hN_0 := hN.c0; have hN_1 := hN.c1; have hR_0 := hR.c0; have hR_1 := hR.c1; have hS_0 := hS.c0; have hS_1 := hS.c1
      have hR_2 := hR.f0; have hR_3 := hR.f1; have hS_2 := hS.f0; have hS_3 := hS.f1
      have n1 : ¬ w4.heap.size = w.heap.size + 1 + 1 := by omega
      have n2 : ¬ w4.heap.size = w.heap.size + 1 + 1 + 1 := by omega
      have n3 : ¬ w5.heap.size = w.heap.size + 1 + 1 := by omega
      have n4 : ¬ w5.heap.size = w.heap.size + 1 + 1 + 1 := by omega
      have n5 : ¬ w.heap.size + 1 + 1 = w4.heap.size := by omega
      have n6 : ¬ w.heap.size + 1 + 1 + 1 = w4.heap.size := by omega
      have n7 : ¬ w.heap.size + 1 + 1 = w5.heap.size := by omega
      have n8 : ¬ w.heap.size + 1 + 1 + 1 = w5.heap.size := by omega
      go_region
      go_wp2_with fail
      refine bodyPost_ret (v := .tuple #[.agg #[.int .i64 (hi (a.tdiv b)), .int .u64 (lo (a.tdiv b))], .agg #[.int .i64 (hi (a.tmod b)), .int .u64 (lo (a.tmod b))], .int .i64 0]) (by simp [results, Tryz.results139, go_sem, hR_0, hR_1, hS_0, hS_1]) rfl (retQ_yes hq ?_)
      exact Ext.drew (Ext.set (Ext.set (Ext.set (Ext.set xw (by omega)) (by omega)) (by omega)) (by omega))
    · rw [thi_no hq, tlo_no hq, ter_no hq]
      replace hR := hR.alloc (.cells #[.int .i64 0, .int .u64 0] 42)
      replace hS := hS.alloc (.cells #[.int .i64 0, .int .u64 0] 42)
      have hR_0 := hR.c0; have hR_1 := hR.c1; have hS_0 := hS.c0; have hS_1 := hS.c1
      have hR_2 := hR.f0; have hR_3 := hR.f1; have hS_2 := hS.f0; have hS_3 := hS.f1
      go_wp2_with fail
      refine bodyPost_ret (v := .tuple #[.agg #[.int .i64 0, .int .u64 0], .agg #[.int .i64 0, .int .u64 0], .int .i64 2]) (by simp [results, Tryz.results139, go_sem, hR_0, hR_1, hS_0, hS_1]) rfl (retQ_no hq ?_)
      exact Ext.set (Ext.set (Ext.set (Ext.set (Ext.alloc xw) (by omega)) (by omega)) (by omega)) (by omega)
end Go.Proofs.YthoedmikfpbfnaaGreat
end
section
/-
  divide.Floor.
-/
namespace Go.Proofs.YthoedmikfpbfnaaGreat
open Go Go.RowKit

theorem tdm {a b : Int} (hb : b ≠ 0) : a = b * a.tdiv b + a.tmod b ∧ (a.tmod b).natAbs < b.natAbs ∧ (a.tmod b).natAbs ≤ a.natAbs := by
  have h1 := Int.mul_tdiv_add_tmod a b
  have h2 := Int.natAbs_tmod a b
  have h3 := Nat.mod_lt a.natAbs (show 0 < b.natAbs by omega)
  have h4 := Nat.mod_le a.natAbs b.natAbs
  refine ⟨h1.symm, by omega, by omega⟩
theorem floor_same {a b : Int} (hb : b ≠ 0) (h : a.tmod b = 0 ∨ (a.tmod b < 0 ↔ b < 0)) : a.fdiv b = a.tdiv b ∧ a.fmod b = a.tmod b := by
  obtain ⟨h1, h2, h3⟩ := tdm (a := a) hb
  generalize a.tdiv b = q at *
  generalize a.tmod b = r at *
  by_cases h0 : 0 < b
  · exact fdiv_fmod_pos h0 h1 (by omega) (by omega)
  · exact fdiv_fmod_neg (by omega) h1 (by omega) (by omega)
theorem floor_less {a b : Int} (hb : b ≠ 0) (h0 : a.tmod b ≠ 0) (h : ¬ (a.tmod b < 0 ↔ b < 0)) : a.fdiv b = a.tdiv b - 1 ∧ a.fmod b = a.tmod b + b := by
  obtain ⟨h1, h2, h3⟩ := tdm (a := a) hb
  generalize a.tdiv b = q at *
  generalize a.tmod b = r at *
  have e : a = b * (q - 1) + (r + b) := by rw [Int.mul_sub, h1]; omega
  by_cases h0 : 0 < b
  · exact fdiv_fmod_pos h0 e (by omega) (by omega)
  · exact fdiv_fmod_neg (by omega) e (by omega) (by omega)
theorem tdiv_nat {a b : Int} : (a.tdiv b).natAbs = a.natAbs / b.natAbs := Int.natAbs_tdiv a b
theorem trunc_room {a b : Int} (ha : W128 a) (hb : b ≠ 0) (h : ¬ W128 (a.tdiv b)) : a.tmod b = 0 := by
  obtain ⟨h1, h2, h3⟩ := tdm (a := a) hb
  have e := tdiv_nat (a := a) (b := b)
  by_cases hb1 : b.natAbs = 1
  · omega
  · exfalso
    have : a.natAbs / b.natAbs ≤ a.natAbs / 2 := Nat.div_le_div_left (by omega) (by omega)
    unfold W128 at *
    omega
theorem floor_room {a b : Int} (ha : W128 a) (hb : b ≠ 0) (h0 : a.tmod b ≠ 0) : W128 (a.tdiv b - 1) := by
  obtain ⟨h1, h2, h3⟩ := tdm (a := a) hb
  have e := tdiv_nat (a := a) (b := b)
  have : a.natAbs / b.natAbs ≤ a.natAbs / 2 := Nat.div_le_div_left (by omega) (by omega)
  unfold W128 at *
  omega

def Trunc3 (a b : Int) : Prop := ∀ w, Calls Tryz.prog 139 #[.agg #[.int .i64 (hi a), .int .u64 (lo a)], .agg #[.int .i64 (hi b), .int .u64 (lo b)]] w (RetQ w (a.tdiv b) (a.tmod b))
set_option maxRecDepth 100000 in
set_option maxHeartbeats 3200000 in
theorem dfloor (a b : Int) (w : World) (ha : W128 a) (hb : W128 b) (h0 : b ≠ 0) (ho : Trunc3 a b) :
    Calls Tryz.prog 107 #[.agg #[.int .i64 (hi a), .int .u64 (lo a)], .agg #[.int .i64 (hi b), .int .u64 (lo b)]] w (RetQ w (a.fdiv b) (a.fmod b)) := by
  have H1 := Lib.hid ho
  have H2 := Lib.hid of_pure
  have H3 := Lib.hid wsub
  have H4 := Lib.hid wadd
  clear ho
  by_cases hq : W128 (a.tdiv b)
  · by_cases hr : a.tmod b = 0
    · obtain ⟨e1, e2⟩ := floor_same (a := a) h0 (Or.inl hr)
      rw [e1, e2]
      have HR := Lib.hid (show hi (a.tmod b) = 0 ∧ lo (a.tmod b) = 0 by rw [hr]; exact ⟨rfl, rfl⟩)
      have g1 : (hi (a.tmod b) == 0) = true := by rw [HR.out.1]; rfl
      have g2 : (lo (a.tmod b) == 0) = true := by rw [HR.out.2]; rfl
      clear e1 e2 hr
      go_enter Tryz.func107, Tryz.ntmps107
      go_wp2_with fail
      obtain ⟨W, hW⟩ : ∃ W, W = (((w.alloc (.cells #[.int .i64 (hi a), .int .u64 (lo a)] 42)).alloc (.cells #[.int .i64 (hi b), .int .u64 (lo b)] 42)).alloc (.cells #[.int .i64 0, .int .u64 0] 42)).alloc (.cells #[.int .i64 0, .int .u64 0] 42) := ⟨_, rfl⟩
      rw [← hW]
      have hB : Box2 W (w.heap.size + 1) (.int .i64 (hi b)) (.int .u64 (lo b)) 42 := by rw [hW]; exact ((Box2.new (by simp)).alloc _).alloc _
      have hR : Box2 W (w.heap.size + 1 + 1) (.int .i64 0) (.int .u64 0) 42 := by rw [hW]; exact (Box2.new (by simp)).alloc _
      have hS : Box2 W (w.heap.size + 1 + 1 + 1) (.int .i64 0) (.int .u64 0) 42 := by rw [hW]; exact Box2.new (by simp)
      have xw : Ext w W := by rw [hW]; exact (Ext.refl w).alloc.alloc.alloc.alloc
      clear hW
      refine (H1.out _).mono ?_
      rintro e w1 ⟨rfl, x1⟩
      (first | replace xw := Ext.trans xw x1 | replace xw := Ext.trans (Ext.alloc xw) x1 | replace xw := Ext.trans (Ext.drew xw) x1 | replace xw := Ext.trans (Ext.alloc (Ext.drew xw)) x1); (first | replace hB := hB.ext x1 | replace hB := (hB.alloc _).ext x1 | replace hB := hB.drew.ext x1 | replace hB := (hB.drew.alloc _).ext x1); (first | replace hR := hR.ext x1 | replace hR := (hR.alloc _).ext x1 | replace hR := hR.drew.ext x1 | replace hR := (hR.drew.alloc _).ext x1); (first | replace hS := hS.ext x1 | replace hS := (hS.alloc _).ext x1 | replace hS := hS.drew.ext x1 | replace hS := (hS.drew.alloc _).ext x1)
      have y1 := hS.kind.lt
      rw [thi_yes hq, tlo_yes hq, ter_yes hq, show qh (a.tdiv b) (a.tmod b) = hi (a.tmod b) from if_pos hq, show ql (a.tdiv b) (a.tmod b) = lo (a.tmod b) from if_pos hq]
      obtain ⟨V, hV⟩ : ∃ V, V = (w1.alloc (.cells #[.int .i64 (hi (a.tdiv b)), .int .u64 (lo (a.tdiv b))] 42)).alloc (.cells #[.int .i64 (hi (a.tmod b)), .int .u64 (lo (a.tmod b))] 42) := ⟨_, rfl⟩
      have hP : Box2 V w1.heap.size (.int .i64 (hi (a.tdiv b))) (.int .u64 (lo (a.tdiv b))) 42 := by rw [hV]; exact (Box2.new rfl).alloc _
      have hQ : Box2 V (w1.heap.size + 1) (.int .i64 (hi (a.tmod b))) (.int .u64 (lo (a.tmod b))) 42 := by rw [hV]; exact Box2.new (by simp)
      replace hB := hB.named2 hV
      replace hR := hR.named2 hV
      replace hS := hS.named2 hV
      replace xw : Ext w V := by rw [hV]; exact Ext.alloc (Ext.alloc xw)
      have kB := hB
      rw [hV] at kB
      have kQ := hQ
      rw [hV] at kQ
      have kB_0 := kB.c0; have kB_1 := kB.c1; have kQ_0 := kQ.c0; have kQ_1 := kQ.c1
      go_wp2_with fail
      rw [← hV]
      clear kB_0 kB_1 kQ_0 kQ_1
      clear kB kQ hV
      have n1 : ¬ w1.heap.size = w.heap.size + 1 + 1 := by omega
      have n2 : ¬ w1.heap.size = w.heap.size + 1 + 1 + 1 := by omega
      have n3 : ¬ w1.heap.size + 1 = w.heap.size + 1 + 1 := by omega
      have n4 : ¬ w1.heap.size + 1 = w.heap.size + 1 + 1 + 1 := by omega
      have n5 : ¬ w.heap.size + 1 + 1 = w1.heap.size := by omega
      have n6 : ¬ w.heap.size + 1 + 1 + 1 = w1.heap.size := by omega
      have n7 : ¬ w.heap.size + 1 = w1.heap.size := by omega
      have n8 : ¬ w.heap.size + 1 + 1 = w1.heap.size + 1 := by omega
      have n9 : ¬ w1.heap.size = w.heap.size + 1 := by omega
      have hP_0 := hP.c0; have hP_1 := hP.c1; have hQ_0 := hQ.c0; have hQ_1 := hQ.c1; have hR_0 := hR.c0; have hR_1 := hR.c1; have hS_0 := hS.c0; have hS_1 := hS.c1
      have hR_2 := hR.f0; have hR_3 := hR.f1; have hS_2 := hS.f0; have hS_3 := hS.f1
      go_region
      go_wp2_with fail
      refine bodyPost_ret (v := .tuple #[.agg #[.int .i64 (hi (a.tdiv b)), .int .u64 (lo (a.tdiv b))], .agg #[.int .i64 (hi (a.tmod b)), .int .u64 (lo (a.tmod b))], .int .i64 0]) (by simp [results, Tryz.results107, go_sem, hR_0, hR_1, hS_0, hS_1]) rfl (retQ_yes hq ?_)
      exact Ext.drew (Ext.set (Ext.set (Ext.set (Ext.set xw (by omega)) (by omega)) (by omega)) (by omega))
    · by_cases hs : a.tmod b < 0 ↔ b < 0
      · obtain ⟨e1, e2⟩ := floor_same (a := a) h0 (Or.inr hs)
        rw [e1, e2]
        have hsg : (decide (hi (a.tmod b) < 0) == decide (hi b < 0)) = true := by
          simp only [beq_iff_eq, decide_eq_decide, hi_neg]; exact hs
        clear e1 e2
        by_cases hz : hi (a.tmod b) = 0
        · have g1 : (hi (a.tmod b) == 0) = true := by simpa using hz
          have g2 : (lo (a.tmod b) == 0) = false := by
            simp only [beq_eq_false_iff_ne, ne_eq]; intro h; apply hr; rw [hi_lo (a.tmod b), hz, h]; rfl
          clear hz hr hs
          go_enter Tryz.func107, Tryz.ntmps107
          go_wp2_with fail
          obtain ⟨W, hW⟩ : ∃ W, W = (((w.alloc (.cells #[.int .i64 (hi a), .int .u64 (lo a)] 42)).alloc (.cells #[.int .i64 (hi b), .int .u64 (lo b)] 42)).alloc (.cells #[.int .i64 0, .int .u64 0] 42)).alloc (.cells #[.int .i64 0, .int .u64 0] 42) := ⟨_, rfl⟩
          rw [← hW]
          have hB : Box2 W (w.heap.size + 1) (.int .i64 (hi b)) (.int .u64 (lo b)) 42 := by rw [hW]; exact ((Box2.new (by simp)).alloc _).alloc _
          have hR : Box2 W (w.heap.size + 1 + 1) (.int .i64 0) (.int .u64 0) 42 := by rw [hW]; exact (Box2.new (by simp)).alloc _
          have hS : Box2 W (w.heap.size + 1 + 1 + 1) (.int .i64 0) (.int .u64 0) 42 := by rw [hW]; exact Box2.new (by simp)
          have xw : Ext w W := by rw [hW]; exact (Ext.refl w).alloc.alloc.alloc.alloc
          clear hW
          refine (H1.out _).mono ?_
          rintro e w1 ⟨rfl, x1⟩
          (first | replace xw := Ext.trans xw x1 | replace xw := Ext.trans (Ext.alloc xw) x1 | replace xw := Ext.trans (Ext.drew xw) x1 | replace xw := Ext.trans (Ext.alloc (Ext.drew xw)) x1); (first | replace hB := hB.ext x1 | replace hB := (hB.alloc _).ext x1 | replace hB := hB.drew.ext x1 | replace hB := (hB.drew.alloc _).ext x1); (first | replace hR := hR.ext x1 | replace hR := (hR.alloc _).ext x1 | replace hR := hR.drew.ext x1 | replace hR := (hR.drew.alloc _).ext x1); (first | replace hS := hS.ext x1 | replace hS := (hS.alloc _).ext x1 | replace hS := hS.drew.ext x1 | replace hS := (hS.drew.alloc _).ext x1)
          have y1 := hS.kind.lt
          rw [thi_yes hq, tlo_yes hq, ter_yes hq, show qh (a.tdiv b) (a.tmod b) = hi (a.tmod b) from if_pos hq, show ql (a.tdiv b) (a.tmod b) = lo (a.tmod b) from if_pos hq]
          obtain ⟨V, hV⟩ : ∃ V, V = (w1.alloc (.cells #[.int .i64 (hi (a.tdiv b)), .int .u64 (lo (a.tdiv b))] 42)).alloc (.cells #[.int .i64 (hi (a.tmod b)), .int .u64 (lo (a.tmod b))] 42) := ⟨_, rfl⟩
          have hP : Box2 V w1.heap.size (.int .i64 (hi (a.tdiv b))) (.int .u64 (lo (a.tdiv b))) 42 := by rw [hV]; exact (Box2.new rfl).alloc _
          have hQ : Box2 V (w1.heap.size + 1) (.int .i64 (hi (a.tmod b))) (.int .u64 (lo (a.tmod b))) 42 := by rw [hV]; exact Box2.new (by simp)
          replace hB := hB.named2 hV
          replace hR := hR.named2 hV
          replace hS := hS.named2 hV
          replace xw : Ext w V := by rw [hV]; exact Ext.alloc (Ext.alloc xw)
          have kB := hB
          rw [hV] at kB
          have kQ := hQ
          rw [hV] at kQ
          have kB_0 := kB.c0; have kB_1 := kB.c1; have kQ_0 := kQ.c0; have kQ_1 := kQ.c1
          go_wp2_with fail
          rw [← hV]
          clear kB_0 kB_1 kQ_0 kQ_1
          clear kB kQ hV
          have n1 : ¬ w1.heap.size = w.heap.size + 1 + 1 := by omega
          have n2 : ¬ w1.heap.size = w.heap.size + 1 + 1 + 1 := by omega
          have n3 : ¬ w1.heap.size + 1 = w.heap.size + 1 + 1 := by omega
          have n4 : ¬ w1.heap.size + 1 = w.heap.size + 1 + 1 + 1 := by omega
          have n5 : ¬ w.heap.size + 1 + 1 = w1.heap.size := by omega
          have n6 : ¬ w.heap.size + 1 + 1 + 1 = w1.heap.size := by omega
          have n7 : ¬ w.heap.size + 1 = w1.heap.size := by omega
          have n8 : ¬ w.heap.size + 1 + 1 = w1.heap.size + 1 := by omega
          have n9 : ¬ w1.heap.size = w.heap.size + 1 := by omega
          have hP_0 := hP.c0; have hP_1 := hP.c1; have hQ_0 := hQ.c0; have hQ_1 := hQ.c1; have hR_0 := hR.c0; have hR_1 := hR.c1; have hS_0 := hS.c0; have hS_1 := hS.c1
          have hR_2 := hR.f0; have hR_3 := hR.f1; have hS_2 := hS.f0; have hS_3 := hS.f1
          go_region
          go_wp2_with fail
          refine bodyPost_ret (v := .tuple #[.agg #[.int .i64 (hi (a.tdiv b)), .int .u64 (lo (a.tdiv b))], .agg #[.int .i64 (hi (a.tmod b)), .int .u64 (lo (a.tmod b))], .int .i64 0]) (by simp [results, Tryz.results107, go_sem, hR_0, hR_1, hS_0, hS_1]) rfl (retQ_yes hq ?_)
          exact Ext.drew (Ext.set (Ext.set (Ext.set (Ext.set xw (by omega)) (by omega)) (by omega)) (by omega))
        · have g1 : (hi (a.tmod b) == 0) = false := by simpa using hz
          clear hz hr hs
          go_enter Tryz.func107, Tryz.ntmps107
          go_wp2_with fail
          obtain ⟨W, hW⟩ : ∃ W, W = (((w.alloc (.cells #[.int .i64 (hi a), .int .u64 (lo a)] 42)).alloc (.cells #[.int .i64 (hi b), .int .u64 (lo b)] 42)).alloc (.cells #[.int .i64 0, .int .u64 0] 42)).alloc (.cells #[.int .i64 0, .int .u64 0] 42) := ⟨_, rfl⟩
          rw [← hW]
          have hB : Box2 W (w.heap.size + 1) (.int .i64 (hi b)) (.int .u64 (lo b)) 42 := by rw [hW]; exact ((Box2.new (by simp)).alloc _).alloc _
          have hR : Box2 W (w.heap.size + 1 + 1) (.int .i64 0) (.int .u64 0) 42 := by rw [hW]; exact (Box2.new (by simp)).alloc _
          have hS : Box2 W (w.heap.size + 1 + 1 + 1) (.int .i64 0) (.int .u64 0) 42 := by rw [hW]; exact Box2.new (by simp)
          have xw : Ext w W := by rw [hW]; exact (Ext.refl w).alloc.alloc.alloc.alloc
          clear hW
          refine (H1.out _).mono ?_
          rintro e w1 ⟨rfl, x1⟩
          (first | replace xw := Ext.trans xw x1 | replace xw := Ext.trans (Ext.alloc xw) x1 | replace xw := Ext.trans (Ext.drew xw) x1 | replace xw := Ext.trans (Ext.alloc (Ext.drew xw)) x1); (first | replace hB := hB.ext x1 | replace hB := (hB.alloc _).ext x1 | replace hB := hB.drew.ext x1 | replace hB := (hB.drew.alloc _).ext x1); (first | replace hR := hR.ext x1 | replace hR := (hR.alloc _).ext x1 | replace hR := hR.drew.ext x1 | replace hR := (hR.drew.alloc _).ext x1); (first | replace hS := hS.ext x1 | replace hS := (hS.alloc _).ext x1 | replace hS := hS.drew.ext x1 | replace hS := (hS.drew.alloc _).ext x1)
          have y1 := hS.kind.lt
          rw [thi_yes hq, tlo_yes hq, ter_yes hq, show qh (a.tdiv b) (a.tmod b) = hi (a.tmod b) from if_pos hq, show ql (a.tdiv b) (a.tmod b) = lo (a.tmod b) from if_pos hq]
          obtain ⟨V, hV⟩ : ∃ V, V = (w1.alloc (.cells #[.int .i64 (hi (a.tdiv b)), .int .u64 (lo (a.tdiv b))] 42)).alloc (.cells #[.int .i64 (hi (a.tmod b)), .int .u64 (lo (a.tmod b))] 42) := ⟨_, rfl⟩
          have hP : Box2 V w1.heap.size (.int .i64 (hi (a.tdiv b))) (.int .u64 (lo (a.tdiv b))) 42 := by rw [hV]; exact (Box2.new rfl).alloc _
          have hQ : Box2 V (w1.heap.size + 1) (.int .i64 (hi (a.tmod b))) (.int .u64 (lo (a.tmod b))) 42 := by rw [hV]; exact Box2.new (by simp)
          replace hB := hB.named2 hV
          replace hR := hR.named2 hV
          replace hS := hS.named2 hV
          replace xw : Ext w V := by rw [hV]; exact Ext.alloc (Ext.alloc xw)
          have kB := hB
          rw [hV] at kB
          have kQ := hQ
          rw [hV] at kQ
          have kB_0 := kB.c0; have kB_1 := kB.c1; have kQ_0 := kQ.c0; have kQ_1 := kQ.c1
          go_wp2_with fail
          rw [← hV]
          clear kB_0 kB_1 kQ_0 kQ_1
          clear kB kQ hV
          have n1 : ¬ w1.heap.size = w.heap.size + 1 + 1 := by omega
          have n2 : ¬ w1.heap.size = w.heap.size + 1 + 1 + 1 := by omega
          have n3 : ¬ w1.heap.size + 1 = w.heap.size + 1 + 1 := by omega
          have n4 : ¬ w1.heap.size + 1 = w.heap.size + 1 + 1 + 1 := by omega
          have n5 : ¬ w.heap.size + 1 + 1 = w1.heap.size := by omega
          have n6 : ¬ w.heap.size + 1 + 1 + 1 = w1.heap.size := by omega
          have n7 : ¬ w.heap.size + 1 = w1.heap.size := by omega
          have n8 : ¬ w.heap.size + 1 + 1 = w1.heap.size + 1 := by omega
          have n9 : ¬ w1.heap.size = w.heap.size + 1 := by omega
          have hP_0 := hP.c0; have hP_1 := hP.c1; have hQ_0 := hQ.c0; have hQ_1 := hQ.c1; have hR_0 := hR.c0; have hR_1 := hR.c1; have hS_0 := hS.c0; have hS_1 := hS.c1
          have hR_2 := hR.f0; have hR_3 := hR.f1; have hS_2 := hS.f0; have hS_3 := hS.f1
          go_region
          go_wp2_with fail
          refine bodyPost_ret (v := .tuple #[.agg #[.int .i64 (hi (a.tdiv b)), .int .u64 (lo (a.tdiv b))], .agg #[.int .i64 (hi (a.tmod b)), .int .u64 (lo (a.tmod b))], .int .i64 0]) (by simp [results, Tryz.results107, go_sem, hR_0, hR_1, hS_0, hS_1]) rfl (retQ_yes hq ?_)
          exact Ext.drew (Ext.set (Ext.set (Ext.set (Ext.set xw (by omega)) (by omega)) (by omega)) (by omega))
      · obtain ⟨e1, e2⟩ := floor_less (a := a) h0 hr hs
        have hq1 := floor_room ha h0 hr
        have hr1 : W128 (a.tmod b + b) := by
          obtain ⟨k1, k2, k3⟩ := tdm (a := a) h0
          unfold W128 at *
          omega
        have hrW := tmod_W (a := a) hb h0
        rw [e1, e2]
        have hsg : (decide (hi (a.tmod b) < 0) == decide (hi b < 0)) = false := by
          simp only [beq_eq_false_iff_ne, ne_eq, decide_eq_decide, hi_neg]; exact hs
        have hW1 : W128 1 := by unfold W128; omega
        clear e1 e2
        by_cases hz : hi (a.tmod b) = 0
        · have g1 : (hi (a.tmod b) == 0) = true := by simpa using hz
          have g2 : (lo (a.tmod b) == 0) = false := by
            simp only [beq_eq_false_iff_ne, ne_eq]; intro h; apply hr; rw [hi_lo (a.tmod b), hz, h]; rfl
          clear hz hr hs
          go_enter Tryz.func107, Tryz.ntmps107
          go_wp2_with fail
          obtain ⟨W, hW⟩ : ∃ W, W = (((w.alloc (.cells #[.int .i64 (hi a), .int .u64 (lo a)] 42)).alloc (.cells #[.int .i64 (hi b), .int .u64 (lo b)] 42)).alloc (.cells #[.int .i64 0, .int .u64 0] 42)).alloc (.cells #[.int .i64 0, .int .u64 0] 42) := ⟨_, rfl⟩
          rw [← hW]
          have hB : Box2 W (w.heap.size + 1) (.int .i64 (hi b)) (.int .u64 (lo b)) 42 := by rw [hW]; exact ((Box2.new (by simp)).alloc _).alloc _
          have hR : Box2 W (w.heap.size + 1 + 1) (.int .i64 0) (.int .u64 0) 42 := by rw [hW]; exact (Box2.new (by simp)).alloc _
          have hS : Box2 W (w.heap.size + 1 + 1 + 1) (.int .i64 0) (.int .u64 0) 42 := by rw [hW]; exact Box2.new (by simp)
          have xw : Ext w W := by rw [hW]; exact (Ext.refl w).alloc.alloc.alloc.alloc
          clear hW
          refine (H1.out _).mono ?_
          rintro e w1 ⟨rfl, x1⟩
          (first | replace xw := Ext.trans xw x1 | replace xw := Ext.trans (Ext.alloc xw) x1 | replace xw := Ext.trans (Ext.drew xw) x1 | replace xw := Ext.trans (Ext.alloc (Ext.drew xw)) x1); (first | replace hB := hB.ext x1 | replace hB := (hB.alloc _).ext x1 | replace hB := hB.drew.ext x1 | replace hB := (hB.drew.alloc _).ext x1); (first | replace hR := hR.ext x1 | replace hR := (hR.alloc _).ext x1 | replace hR := hR.drew.ext x1 | replace hR := (hR.drew.alloc _).ext x1); (first | replace hS := hS.ext x1 | replace hS := (hS.alloc _).ext x1 | replace hS := hS.drew.ext x1 | replace hS := (hS.drew.alloc _).ext x1)
          have y1 := hS.kind.lt
          rw [thi_yes hq, tlo_yes hq, ter_yes hq, show qh (a.tdiv b) (a.tmod b) = hi (a.tmod b) from if_pos hq, show ql (a.tdiv b) (a.tmod b) = lo (a.tmod b) from if_pos hq]
          obtain ⟨V, hV⟩ : ∃ V, V = (w1.alloc (.cells #[.int .i64 (hi (a.tdiv b)), .int .u64 (lo (a.tdiv b))] 42)).alloc (.cells #[.int .i64 (hi (a.tmod b)), .int .u64 (lo (a.tmod b))] 42) := ⟨_, rfl⟩
          have hP : Box2 V w1.heap.size (.int .i64 (hi (a.tdiv b))) (.int .u64 (lo (a.tdiv b))) 42 := by rw [hV]; exact (Box2.new rfl).alloc _
          have hQ : Box2 V (w1.heap.size + 1) (.int .i64 (hi (a.tmod b))) (.int .u64 (lo (a.tmod b))) 42 := by rw [hV]; exact Box2.new (by simp)
          replace hB := hB.named2 hV
          replace hR := hR.named2 hV
          replace hS := hS.named2 hV
          replace xw : Ext w V := by rw [hV]; exact Ext.alloc (Ext.alloc xw)
          have kB := hB
          rw [hV] at kB
          have kQ := hQ
          rw [hV] at kQ
          have kB_0 := kB.c0; have kB_1 := kB.c1; have kQ_0 := kQ.c0; have kQ_1 := kQ.c1
          go_wp2_with fail
          rw [← hV]
          clear kB_0 kB_1 kQ_0 kQ_1
          clear kB kQ hV
          go_cut [9] (fun s9 wx => s9 = .int .i64 0 ∧ Box2 wx w1.heap.size (.int .i64 (hi (a.tdiv b - 1))) (.int .u64 (lo (a.tdiv b - 1))) 42 ∧ Box2 wx (w1.heap.size + 1) (.int .i64 (hi (a.tmod b))) (.int .u64 (lo (a.tmod b))) 42 ∧
            Box2 wx (w.heap.size + 1) (.int .i64 (hi b)) (.int .u64 (lo b)) 42 ∧ Box2 wx (w.heap.size + 1 + 1) (.int .i64 0) (.int .u64 0) 42 ∧ Box2 wx (w.heap.size + 1 + 1 + 1) (.int .i64 0) (.int .u64 0) 42 ∧ Ext w wx)
          case first =>
            have hP_0 := hP.c0; have hP_1 := hP.c1
            have d0 := hP.drew.c0
            have d1 := hP.drew.c1
            go_region_with (first
              | (go_at_call 30; refine (H2.out 1 _ (by omega) (by omega)).mono ?_; rintro e w2 ⟨rfl, x2⟩; have p := hP.drew.ext x2; have p0 := p.c0; have p1 := p.c1)
              | (go_at_call 92; refine (H3.out (a.tdiv b) 1 _ hq hW1).mono ?_; rw [show RetT _ (a.tdiv b - 1) = fun e w' => e = .returned (.tuple #[.agg #[.int .i64 (hi (a.tdiv b - 1)), .int .u64 (lo (a.tdiv b - 1))], .int .i64 0]) ∧ Ext _ w' from by unfold RetT; rw [thi_yes hq1, tlo_yes hq1, ter_yes hq1]]; rintro e w3 ⟨rfl, x3⟩; have q := (hP.drew.ext x2).ext x3; have q0 := q.c0; have q1 := q.c1; have q2 := q.f0; have q3 := q.f1))
            all_goals
              go_wp2_with fail
              go_meet
              exact ⟨rfl, q.set _ _, ((hQ.drew.ext x2).ext x3).other2 (by omega) _ _, ((hB.drew.ext x2).ext x3).other2 (by omega) _ _, ((hR.drew.ext x2).ext x3).other2 (by omega) _ _, ((hS.drew.ext x2).ext x3).other2 (by omega) _ _, Ext.set (Ext.set (Ext.trans (Ext.trans (Ext.drew xw) x2) x3) (by omega)) (by omega)⟩
          case rest =>
            obtain ⟨rfl, hP, hQ, hB, hR, hS, xw⟩ := hcut
            have hQ_0 := hQ.c0; have hQ_1 := hQ.c1; have hB_0 := hB.c0; have hB_1 := hB.c1
            go_wp2_with fail
            clear hQ_0 hQ_1 hB_0 hB_1
            refine (H4.out _ _ _ hrW hb).mono ?_
            rintro e w4 ⟨rfl, x4⟩
            rw [thi_yes hr1, tlo_yes hr1, ter_yes hr1]
            (first | replace xw := Ext.trans xw x4 | replace xw := Ext.trans (Ext.alloc xw) x4 | replace xw := Ext.trans (Ext.drew xw) x4 | replace xw := Ext.trans (Ext.alloc (Ext.drew xw)) x4); (first | replace hP := hP.ext x4 | replace hP := (hP.alloc _).ext x4 | replace hP := hP.drew.ext x4 | replace hP := (hP.drew.alloc _).ext x4); (first | replace hQ := hQ.ext x4 | replace hQ := (hQ.alloc _).ext x4 | replace hQ := hQ.drew.ext x4 | replace hQ := (hQ.drew.alloc _).ext x4); (first | replace hB := hB.ext x4 | replace hB := (hB.alloc _).ext x4 | replace hB := hB.drew.ext x4 | replace hB := (hB.drew.alloc _).ext x4); (first | replace hR := hR.ext x4 | replace hR := (hR.alloc _).ext x4 | replace hR := hR.drew.ext x4 | replace hR := (hR.drew.alloc _).ext x4); (first | replace hS := hS.ext x4 | replace hS := (hS.alloc _).ext x4 | replace hS := hS.drew.ext x4 | replace hS := (hS.drew.alloc _).ext x4)
            have hQ_0 := hQ.c0; have hQ_1 := hQ.c1
            have hQ_2 := hQ.f0; have hQ_3 := hQ.f1
            go_wp2_with fail
            clear hQ_0 hQ_1 hQ_2 hQ_3
            obtain ⟨U, hU⟩ : ∃ U, U = (w4.setCell ⟨w1.heap.size + 1, 0, none⟩ (.int .i64 (hi (a.tmod b + b)))).setCell ⟨w1.heap.size + 1, 1, none⟩ (.int .u64 (lo (a.tmod b + b))) := ⟨_, rfl⟩
            replace hP : Box2 U w1.heap.size (.int .i64 (hi (a.tdiv b - 1))) (.int .u64 (lo (a.tdiv b - 1))) 42 := by rw [hU]; exact hP.other2 (by omega) _ _
            replace hR : Box2 U (w.heap.size + 1 + 1) (.int .i64 0) (.int .u64 0) 42 := by rw [hU]; exact hR.other2 (by omega) _ _
            replace hS : Box2 U (w.heap.size + 1 + 1 + 1) (.int .i64 0) (.int .u64 0) 42 := by rw [hU]; exact hS.other2 (by omega) _ _
            replace hQ : Box2 U (w1.heap.size + 1) (.int .i64 (hi (a.tmod b + b))) (.int .u64 (lo (a.tmod b + b))) 42 := by rw [hU]; exact hQ.set _ _
            replace xw : Ext w U := by rw [hU]; exact Ext.set (Ext.set xw (by omega)) (by omega)
            rw [← hU]
            clear hU
            have n1 : ¬ w1.heap.size = w.heap.size + 1 + 1 := by omega
            have n2 : ¬ w1.heap.size = w.heap.size + 1 + 1 + 1 := by omega
            have n3 : ¬ w1.heap.size + 1 = w.heap.size + 1 + 1 := by omega
            have n4 : ¬ w1.heap.size + 1 = w.heap.size + 1 + 1 + 1 := by omega
            have n5 : ¬ w.heap.size + 1 + 1 = w1.heap.size := by omega
            have n6 : ¬ w.heap.size + 1 + 1 + 1 = w1.heap.size := by omega
            have n7 : ¬ w.heap.size + 1 = w1.heap.size := by omega
            have n8 : ¬ w.heap.size + 1 + 1 = w1.heap.size + 1 := by omega
            have n9 : ¬ w1.heap.size = w.heap.size + 1 := by omega
            have hP_0 := hP.c0; have hP_1 := hP.c1; have hQ_0 := hQ.c0; have hQ_1 := hQ.c1; have hR_0 := hR.c0; have hR_1 := hR.c1; have hS_0 := hS.c0; have hS_1 := hS.c1
            have hR_2 := hR.f0; have hR_3 := hR.f1; have hS_2 := hS.f0; have hS_3 := hS.f1
            go_region
            go_wp2_with fail
            refine bodyPost_ret (v := .tuple #[.agg #[.int .i64 (hi (a.tdiv b - 1)), .int .u64 (lo (a.tdiv b - 1))], .agg #[.int .i64 (hi (a.tmod b + b)), .int .u64 (lo (a.tmod b + b))], .int .i64 0]) (by simp [results, Tryz.results107, go_sem, hR_0, hR_1, hS_0, hS_1]) rfl (retQ_yes hq1 ?_)
            exact Ext.drew (Ext.set (Ext.set (Ext.set (Ext.set xw (by omega)) (by omega)) (by omega)) (by omega))
        · have g1 : (hi (a.tmod b) == 0) = false := by simpa using hz
          clear hz hr hs
          go_enter Tryz.func107, Tryz.ntmps107
          go_wp2_with fail
          obtain ⟨W, hW⟩ : ∃ W, W = (((w.alloc (.cells #[.int .i64 (hi a), .int .u64 (lo a)] 42)).alloc (.cells #[.int .i64 (hi b), .int .u64 (lo b)] 42)).alloc (.cells #[.int .i64 0, .int .u64 0] 42)).alloc (.cells #[.int .i64 0, .int .u64 0] 42) := ⟨_, rfl⟩
          rw [← hW]
          have hB : Box2 W (w.heap.size + 1) (.int .i64 (hi b)) (.int .u64 (lo b)) 42 := by rw [hW]; exact ((Box2.new (by simp)).alloc _).alloc _
          have hR : Box2 W (w.heap.size + 1 + 1) (.int .i64 0) (.int .u64 0) 42 := by rw [hW]; exact (Box2.new (by simp)).alloc _
          have hS : Box2 W (w.heap.size + 1 + 1 + 1) (.int .i64 0) (.int .u64 0) 42 := by rw [hW]; exact Box2.new (by simp)
          have xw : Ext w W := by rw [hW]; exact (Ext.refl w).alloc.alloc.alloc.alloc
          clear hW
          refine (H1.out _).mono ?_
          rintro e w1 ⟨rfl, x1⟩
          (first | replace xw := Ext.trans xw x1 | replace xw := Ext.trans (Ext.alloc xw) x1 | replace xw := Ext.trans (Ext.drew xw) x1 | replace xw := Ext.trans (Ext.alloc (Ext.drew xw)) x1); (first | replace hB := hB.ext x1 | replace hB := (hB.alloc _).ext x1 | replace hB := hB.drew.ext x1 | replace hB := (hB.drew.alloc _).ext x1); (first | replace hR := hR.ext x1 | replace hR := (hR.alloc _).ext x1 | replace hR := hR.drew.ext x1 | replace hR := (hR.drew.alloc _).ext x1); (first | replace hS := hS.ext x1 | replace hS := (hS.alloc _).ext x1 | replace hS := hS.drew.ext x1 | replace hS := (hS.drew.alloc _).ext x1)
          have y1 := hS.kind.lt
          rw [thi_yes hq, tlo_yes hq, ter_yes hq, show qh (a.tdiv b) (a.tmod b) = hi (a.tmod b) from if_pos hq, show ql (a.tdiv b) (a.tmod b) = lo (a.tmod b) from if_pos hq]
          obtain ⟨V, hV⟩ : ∃ V, V = (w1.alloc (.cells #[.int .i64 (hi (a.tdiv b)), .int .u64 (lo (a.tdiv b))] 42)).alloc (.cells #[.int .i64 (hi (a.tmod b)), .int .u64 (lo (a.tmod b))] 42) := ⟨_, rfl⟩
          have hP : Box2 V w1.heap.size (.int .i64 (hi (a.tdiv b))) (.int .u64 (lo (a.tdiv b))) 42 := by rw [hV]; exact (Box2.new rfl).alloc _
          have hQ : Box2 V (w1.heap.size + 1) (.int .i64 (hi (a.tmod b))) (.int .u64 (lo (a.tmod b))) 42 := by rw [hV]; exact Box2.new (by simp)
          replace hB := hB.named2 hV
          replace hR := hR.named2 hV
          replace hS := hS.named2 hV
          replace xw : Ext w V := by rw [hV]; exact Ext.alloc (Ext.alloc xw)
          have kB := hB
          rw [hV] at kB
          have kQ := hQ
          rw [hV] at kQ
          have kB_0 := kB.c0; have kB_1 := kB.c1; have kQ_0 := kQ.c0; have kQ_1 := kQ.c1
          go_wp2_with fail
          rw [← hV]
          clear kB_0 kB_1 kQ_0 kQ_1
          clear kB kQ hV
          go_cut [9] (fun s9 wx => s9 = .int .i64 0 ∧ Box2 wx w1.heap.size (.int .i64 (hi (a.tdiv b - 1))) (.int .u64 (lo (a.tdiv b - 1))) 42 ∧ Box2 wx (w1.heap.size + 1) (.int .i64 (hi (a.tmod b))) (.int .u64 (lo (a.tmod b))) 42 ∧
            Box2 wx (w.heap.size + 1) (.int .i64 (hi b)) (.int .u64 (lo b)) 42 ∧ Box2 wx (w.heap.size + 1 + 1) (.int .i64 0) (.int .u64 0) 42 ∧ Box2 wx (w.heap.size + 1 + 1 + 1) (.int .i64 0) (.int .u64 0) 42 ∧ Ext w wx)
          case first =>
            have hP_0 := hP.c0; have hP_1 := hP.c1
            have d0 := hP.drew.c0
            have d1 := hP.drew.c1
            go_region_with (first
              | (go_at_call 30; refine (H2.out 1 _ (by omega) (by omega)).mono ?_; rintro e w2 ⟨rfl, x2⟩; have p := hP.drew.ext x2; have p0 := p.c0; have p1 := p.c1)
              | (go_at_call 92; refine (H3.out (a.tdiv b) 1 _ hq hW1).mono ?_; rw [show RetT _ (a.tdiv b - 1) = fun e w' => e = .returned (.tuple #[.agg #[.int .i64 (hi (a.tdiv b - 1)), .int .u64 (lo (a.tdiv b - 1))], .int .i64 0]) ∧ Ext _ w' from by unfold RetT; rw [thi_yes hq1, tlo_yes hq1, ter_yes hq1]]; rintro e w3 ⟨rfl, x3⟩; have q := (hP.drew.ext x2).ext x3; have q0 := q.c0; have q1 := q.c1; have q2 := q.f0; have q3 := q.f1))
            all_goals
              go_wp2_with fail
              go_meet
              exact ⟨rfl, q.set _ _, ((hQ.drew.ext x2).ext x3).other2 (by omega) _ _, ((hB.drew.ext x2).ext x3).other2 (by omega) _ _, ((hR.drew.ext x2).ext x3).other2 (by omega) _ _, ((hS.drew.ext x2).ext x3).other2 (by omega) _ _, Ext.set (Ext.set (Ext.trans (Ext.trans (Ext.drew xw) x2) x3) (by omega)) (by omega)⟩
          case rest =>
            obtain ⟨rfl, hP, hQ, hB, hR, hS, xw⟩ := hcut
            have hQ_0 := hQ.c0; have hQ_1 := hQ.c1; have hB_0 := hB.c0; have hB_1 := hB.c1
            go_wp2_with fail
            clear hQ_0 hQ_1 hB_0 hB_1
            refine (H4.out _ _ _ hrW hb).mono ?_
            rintro e w4 ⟨rfl, x4⟩
            rw [thi_yes hr1, tlo_yes hr1, ter_yes hr1]
            (first | replace xw := Ext.trans xw x4 | replace xw := Ext.trans (Ext.alloc xw) x4 | replace xw := Ext.trans (Ext.drew xw) x4 | replace xw := Ext.trans (Ext.alloc (Ext.drew xw)) x4); (first | replace hP := hP.ext x4 | replace hP := (hP.alloc _).ext x4 | replace hP := hP.drew.ext x4 | replace hP := (hP.drew.alloc _).ext x4); (first | replace hQ := hQ.ext x4 | replace hQ := (hQ.alloc _).ext x4 | replace hQ := hQ.drew.ext x4 | replace hQ := (hQ.drew.alloc _).ext x4); (first | replace hB := hB.ext x4 | replace hB := (hB.alloc _).ext x4 | replace hB := hB.drew.ext x4 | replace hB := (hB.drew.alloc _).ext x4); (first | replace hR := hR.ext x4 | replace hR := (hR.alloc _).ext x4 | replace hR := hR.drew.ext x4 | replace hR := (hR.drew.alloc _).ext x4); (first | replace hS := hS.ext x4 | replace hS := (hS.alloc _).ext x4 | replace hS := hS.drew.ext x4 | replace hS := (hS.drew.alloc _).ext x4)
            have hQ_0 := hQ.c0; have hQ_1 := hQ.c1
            have hQ_2 := hQ.f0; have hQ_3 := hQ.f1
            go_wp2_with fail
            clear hQ_0 hQ_1 hQ_2 hQ_3
            obtain ⟨U, hU⟩ : ∃ U, U = (w4.setCell ⟨w1.heap.size + 1, 0, none⟩ (.int .i64 (hi (a.tmod b + b)))).setCell ⟨w1.heap.size + 1, 1, none⟩ (.int .u64 (lo (a.tmod b + b))) := ⟨_, rfl⟩
            replace hP : Box2 U w1.heap.size (.int .i64 (hi (a.tdiv b - 1))) (.int .u64 (lo (a.tdiv b - 1))) 42 := by rw [hU]; exact hP.other2 (by omega) _ _
            replace hR : Box2 U (w.heap.size + 1 + 1) (.int .i64 0) (.int .u64 0) 42 := by rw [hU]; exact hR.other2 (by omega) _ _
            replace hS : Box2 U (w.heap.size + 1 + 1 + 1) (.int .i64 0) (.int .u64 0) 42 := by rw [hU]; exact hS.other2 (by omega) _ _
            replace hQ : Box2 U (w1.heap.size + 1) (.int .i64 (hi (a.tmod b + b))) (.int .u64 (lo (a.tmod b + b))) 42 := by rw [hU]; exact hQ.set _ _
            replace xw : Ext w U := by rw [hU]; exact Ext.set (Ext.set xw (by omega)) (by omega)
            rw [← hU]
            clear hU
            have n1 : ¬ w1.heap.size = w.heap.size + 1 + 1 := by omega
            have n2 : ¬ w1.heap.size = w.heap.size + 1 + 1 + 1 := by omega
            have n3 : ¬ w1.heap.size + 1 = w.heap.size + 1 + 1 := by omega
            have n4 : ¬ w1.heap.size + 1 = w.heap.size + 1 + 1 + 1 := by omega
            have n5 : ¬ w.heap.size + 1 + 1 = w1.heap.size := by omega
            have n6 : ¬ w.heap.size + 1 + 1 + 1 = w1.heap.size := by omega
            have n7 : ¬ w.heap.size + 1 = w1.heap.size := by omega
            have n8 : ¬ w.heap.size + 1 + 1 = w1.heap.size + 1 := by omega
            have n9 : ¬ w1.heap.size = w.heap.size + 1 := by omega
            have hP_0 := hP.c0; have hP_1 := hP.c1; have hQ_0 := hQ.c0; have hQ_1 := hQ.c1; have hR_0 := hR.c0; have hR_1 := hR.c1; have hS_0 := hS.c0; have hS_1 := hS.c1
            have hR_2 := hR.f0; have hR_3 := hR.f1; have hS_2 := hS.f0; have hS_3 := hS.f1
            go_region
            go_wp2_with fail
            refine bodyPost_ret (v := .tuple #[.agg #[.int .i64 (hi (a.tdiv b - 1)), .int .u64 (lo (a.tdiv b - 1))], .agg #[.int .i64 (hi (a.tmod b + b)), .int .u64 (lo (a.tmod b + b))], .int .i64 0]) (by simp [results, Tryz.results107, go_sem, hR_0, hR_1, hS_0, hS_1]) rfl (retQ_yes hq1 ?_)
            exact Ext.drew (Ext.set (Ext.set (Ext.set (Ext.set xw (by omega)) (by omega)) (by omega)) (by omega))
  · have hr := trunc_room ha h0 hq
    obtain ⟨e1, e2⟩ := floor_same h0 (Or.inl hr)
    have hno : ¬ W128 (a.fdiv b) := by rw [e1]; exact hq
    clear e1 e2 hr
    go_enter Tryz.func107, Tryz.ntmps107
    go_wp2_with fail
    obtain ⟨W, hW⟩ : ∃ W, W = (((w.alloc (.cells #[.int .i64 (hi a), .int .u64 (lo a)] 42)).alloc (.cells #[.int .i64 (hi b), .int .u64 (lo b)] 42)).alloc (.cells #[.int .i64 0, .int .u64 0] 42)).alloc (.cells #[.int .i64 0, .int .u64 0] 42) := ⟨_, rfl⟩
    rw [← hW]
    have hB : Box2 W (w.heap.size + 1) (.int .i64 (hi b)) (.int .u64 (lo b)) 42 := by rw [hW]; exact ((Box2.new (by simp)).alloc _).alloc _
    have hR : Box2 W (w.heap.size + 1 + 1) (.int .i64 0) (.int .u64 0) 42 := by rw [hW]; exact (Box2.new (by simp)).alloc _
    have hS : Box2 W (w.heap.size + 1 + 1 + 1) (.int .i64 0) (.int .u64 0) 42 := by rw [hW]; exact Box2.new (by simp)
    have xw : Ext w W := by rw [hW]; exact (Ext.refl w).alloc.alloc.alloc.alloc
    clear hW
    refine (H1.out _).mono ?_
    rintro e w1 ⟨rfl, x1⟩
    (first | replace xw := Ext.trans xw x1 | replace xw := Ext.trans (Ext.alloc xw) x1 | replace xw := Ext.trans (Ext.drew xw) x1 | replace xw := Ext.trans (Ext.alloc (Ext.drew xw)) x1); (first | replace hB := hB.ext x1 | replace hB := (hB.alloc _).ext x1 | replace hB := hB.drew.ext x1 | replace hB := (hB.drew.alloc _).ext x1); (first | replace hR := hR.ext x1 | replace hR := (hR.alloc _).ext x1 | replace hR := hR.drew.ext x1 | replace hR := (hR.drew.alloc _).ext x1); (first | replace hS := hS.ext x1 | replace hS := (hS.alloc _).ext x1 | replace hS := hS.drew.ext x1 | replace hS := (hS.drew.alloc _).ext x1)
    have y1 := hS.kind.lt
    rw [thi_no hq, tlo_no hq, ter_no hq, show qh (a.tdiv b) (a.tmod b) = 0 from if_neg hq, show ql (a.tdiv b) (a.tmod b) = 0 from if_neg hq]
    replace hR := (hR.alloc (.cells #[.int .i64 0, .int .u64 0] 42)).alloc (.cells #[.int .i64 0, .int .u64 0] 42)
    replace hS := (hS.alloc (.cells #[.int .i64 0, .int .u64 0] 42)).alloc (.cells #[.int .i64 0, .int .u64 0] 42)
    have hR_0 := hR.c0; have hR_1 := hR.c1; have hS_0 := hS.c0; have hS_1 := hS.c1
    have hR_2 := hR.f0; have hR_3 := hR.f1; have hS_2 := hS.f0; have hS_3 := hS.f1
    go_wp2_with fail
    refine bodyPost_ret (v := .tuple #[.agg #[.int .i64 0, .int .u64 0], .agg #[.int .i64 0, .int .u64 0], .int .i64 2]) (by simp [results, Tryz.results107, go_sem, hR_0, hR_1, hS_0, hS_1]) rfl (retQ_no hno ?_)
    exact Ext.set (Ext.set (Ext.set (Ext.set (Ext.alloc (Ext.alloc xw)) (by omega)) (by omega)) (by omega)) (by omega)
end Go.Proofs.YthoedmikfpbfnaaGreat

/-
  divide.By.
-/
namespace Go.Proofs.YthoedmikfpbfnaaGreat
open Go Go.RowKit

theorem by_math {a n : Int} (ha : W128 a) (hn : 0 < n) : W128 (a.fdiv n) ∧ 0 ≤ a.fmod n ∧ a.fmod n < n := by
  have e1 := Int.fdiv_eq_ediv_of_nonneg a (show 0 ≤ n by omega)
  have e2 := Int.fmod_eq_emod_of_nonneg a (show 0 ≤ n by omega)
  rw [e1, e2]
  have h1 := Int.emod_nonneg a (show n ≠ 0 by omega)
  have h2 := Int.emod_lt_of_pos a hn
  refine ⟨?_, h1, h2⟩
  unfold W128 at *
  by_cases h : 0 ≤ a
  · have := Int.ediv_le_self n h
    have := Int.ediv_nonneg h (show 0 ≤ n by omega)
    omega
  · have h3 : a ≤ a / n := by
      refine Int.le_ediv_of_mul_le hn ?_
      have := Int.mul_le_mul_of_nonpos_left (show a ≤ 0 by omega) (show 1 ≤ n by omega)
      omega
    have h4 : a / n < 0 := Int.ediv_neg_of_neg_of_pos (by omega) hn
    omega
theorem floor_small (a n : Int) (w : World) (ha : W128 a) (hn : 0 < n) (hI : I64 n) :
    Calls Tryz.prog 107 #[.agg #[.int .i64 (hi a), .int .u64 (lo a)], .agg #[.int .i64 (hi n), .int .u64 (lo n)]] w (RetQ w (a.fdiv n) (a.fmod n)) := by
  refine dfloor a n w ha hI.w (by omega) (fun w => dtrunc a n w ha hI.w (by omega) (fun w => ?_))
  have h1 : mag n = n := mag_pos (by omega)
  have h2 : n < 18446744073709551616 := by unfold I64 at hI; omega
  have h3 : lo n = n ∧ hi n = 0 := by have := small_hl (x := n) (by omega) h2; exact ⟨this.2, this.1⟩
  rw [h1]
  exact over_small (mag a) n w (mag_U ha) hn h2
def ByP (w : World) (a n : Int) (e : Ending) (w' : World) : Prop := e = .returned (.tuple #[.agg #[.int .i64 (hi (a.fdiv n)), .int .u64 (lo (a.fdiv n))], .int .i64 (a.fmod n), .int .i64 0]) ∧ Ext w w'

set_option maxRecDepth 100000 in
set_option maxHeartbeats 3200000 in
theorem dby (a n : Int) (w : World) (ha : W128 a) (hn : 0 < n) (hI : I64 n) :
    Calls Tryz.prog 118 #[.agg #[.int .i64 (hi a), .int .u64 (lo a)], .int .i64 n] w (ByP w a n) := by
  have H1 := Lib.hid of_pure
  have H2 := Lib.hid floor_small
  obtain ⟨hq, r0, r1⟩ := by_math ha hn
  obtain ⟨n0, n1⟩ := hI
  have hr : lo (a.fmod n) = a.fmod n ∧ hi (a.fmod n) = 0 := by have := small_hl (x := a.fmod n) r0 (by omega); exact ⟨this.2, this.1⟩
  have HR := Lib.hid hr
  have hn' : ¬ n ≤ 0 := by omega
  clear hr
  go_enter Tryz.func118, Tryz.ntmps118
  go_wp2_with fail
  obtain ⟨W, hW⟩ : ∃ W, W = (w.alloc (.cells #[.int .i64 (hi a), .int .u64 (lo a)] 42)).alloc (.cells #[.int .i64 0, .int .u64 0] 42) := ⟨_, rfl⟩
  rw [← hW]
  have hA : Box2 W w.heap.size (.int .i64 (hi a)) (.int .u64 (lo a)) 42 := by rw [hW]; exact (Box2.new rfl).alloc _
  have hR : Box2 W (w.heap.size + 1) (.int .i64 0) (.int .u64 0) 42 := by rw [hW]; exact Box2.new (by simp)
  have xw : Ext w W := by rw [hW]; exact (Ext.refl w).alloc.alloc
  have sW : W.heap.size = w.heap.size + 2 := by rw [hW]; simp
  have SW := Lib.hid sW
  clear hW sW
  go_cut [7, 8] (fun s7 s8 wx => ∃ (k7 k8 : Nat), s7 = .pointer (some ⟨k7, 0, none⟩) ∧ s8 = .pointer (some ⟨k8, 0, none⟩) ∧ w.heap.size + 2 ≤ k7 ∧ w.heap.size + 2 ≤ k8 ∧ Box2 wx k7 (.int .i64 (hi (a.fdiv n))) (.int .u64 (lo (a.fdiv n))) 42 ∧
    Box2 wx k8 (.int .i64 (hi (a.fmod n))) (.int .u64 (lo (a.fmod n))) 42 ∧ Box2 wx (w.heap.size + 1) (.int .i64 0) (.int .u64 0) 42 ∧ Ext w wx)
  case first =>
    refine wp_region_noPanic ?_
    refine wp_region_held_drew (S := fun w' => Ext W w') (by kernel_rfl) (Ext.refl W).drew (fun hHeld => ?_)
    have c0 := fun w' (h : Ext W w') => (hA.ext h).c0
    have c1 := fun w' (h : Ext W w') => (hA.ext h).c1
    refine wpAnyH_take (i := 0) (v := .agg #[.int .i64 (hi a), .int .u64 (lo a)]) rfl (by kernel_rfl) (by kernel_rfl) (by kernel_rfl) (fun _ _ _ h => h) (Or.inl ⟨by kernel_rfl, fun w' h => (by go_simp)⟩) hHeld ?_
    refine wpAnyH_take (i := 1) (v := .int .i64 n) rfl (by kernel_rfl) (by kernel_rfl) (by kernel_rfl) (fun _ _ _ h => h) (Or.inl ⟨by kernel_rfl, fun w' h => (by go_simp)⟩) hHeld ?_
    refine region2 (N := 13) (f0 := [0, 1]) (l := [(2, false), (3, false), (4, true), (5, true), (6, true), (7, true)]) (T := [10, 11, 12]) (iA := 8) (dA := 7) (iB := 9) (dB := 8) (oA := .cells #[.int .i64 0, .int .u64 0] 42) (oB := .cells #[.int .i64 0, .int .u64 0] 42) (fun _ _ _ _ _ h => h) (by kernel_rfl) (by kernel_rfl) rfl (by kernel_rfl) (by kernel_rfl)
      (fun K a w h => wpOp_of rfl fun K' hK => (by go_simp; exact hK _ _ h)) (fun K a w h => wpOp_of rfl fun K' hK => (by go_simp; exact hK _ _ h)) (by decide) (by simp [Act.put]) (by simp [Act.put]) (fun _ _ h x => h.trans x) hHeld ?_
    intro a1 v1 h1 y1; obtain ⟨s7, s8, rfl⟩ := away2 h1; refine wpOp_of rfl fun K' hK => ?_; go_simp
    refine (H1.out n _ n0 n1).mono ?_
    rintro e w1 ⟨rfl, hb1⟩
    refine hK _ _ ⟨⟨hb1, rfl, slots2 rfl rfl⟩, ?_⟩; clear hK K'
    intro a1 v2 h1 y2; obtain ⟨s7, s8, rfl⟩ := away2 h1; refine wpOp_of rfl fun K' hK => ?_; go_simp
    refine (H2.out a n _ ha hn ⟨n0, n1⟩).mono ?_
    unfold RetQ
    rw [thi_yes hq, tlo_yes hq, ter_yes hq, show qh (a.fdiv n) (a.fmod n) = hi (a.fmod n) from if_pos hq, show ql (a.fdiv n) (a.fmod n) = lo (a.fmod n) from if_pos hq]
    rintro e w3 ⟨rfl, hb2⟩
    refine hK _ _ ⟨⟨hb2, rfl, slots2 rfl rfl⟩, ?_⟩; clear hK K'
    have x4 : Ext W w3 := Ext.trans (Ext.trans (Ext.trans (Ext.trans (Ext.refl W).drew y1) hb1) y2) hb2
    refine ⟨_, .tuple #[.agg #[.int .i64 (hi (a.fdiv n)), .int .u64 (lo (a.fdiv n))], .agg #[.int .i64 (hi (a.fmod n)), .int .u64 (lo (a.fmod n))], .int .i64 0], rfl, Or.inl ⟨by rfl, fun w' h => (by go_simp)⟩, by simp, ?_⟩
    refine ⟨_, .agg #[.int .i64 (hi (a.fdiv n)), .int .u64 (lo (a.fdiv n))], rfl, Or.inl ⟨by rfl, fun w' h => (by go_simp)⟩, by simp, ?_⟩
    refine ⟨_, .agg #[.int .i64 (hi (a.fmod n)), .int .u64 (lo (a.fmod n))], rfl, Or.inl ⟨by rfl, fun w' h => (by go_simp)⟩, by simp, ?_⟩
    refine ⟨_, .int .i64 0, rfl, Or.inl ⟨by rfl, fun w' h => (by go_simp)⟩, by simp, ?_⟩
    intro a' w' h y
    obtain ⟨s6, s7, rfl⟩ := away2 h
    rintro k k' ⟨hk1, hk2, hk3⟩ ⟨hl1, hl2, hl3⟩ hne hS'
    simp [Act.put] at hk2 hl2
    subst hk2 hl2
    have hk1' : w.heap.size + 2 ≤ k := by rw [← SW.out]; exact hk1
    have hl1' : w.heap.size + 2 ≤ k' := by rw [← SW.out]; exact hl1
    have hkb : Box2 w' k (.int .i64 0) (.int .u64 0) 42 := hk3
    have hlb : Box2 w' k' (.int .i64 0) (.int .u64 0) 42 := hl3
    have k0 := hkb.c0
    have k1 := hkb.c1
    have k2 := hkb.f0
    have k3 := hkb.f1
    have hBq := hkb.set (.int .i64 (hi (a.fdiv n))) (.int .u64 (lo (a.fdiv n)))
    have hBr := hlb.other2 (Ne.symm hne) (.int .i64 (hi (a.fdiv n))) (.int .u64 (lo (a.fdiv n)))
    have hSq : Ext W ((w'.setCell ⟨k, 0, none⟩ (.int .i64 (hi (a.fdiv n)))).setCell ⟨k, 1, none⟩ (.int .u64 (lo (a.fdiv n)))) := (hS'.set hk1).set hk1
    have l0 := hBr.c0
    have l1 := hBr.c1
    have l2 := hBr.f0
    have l3 := hBr.f1
    refine wpOp_of rfl fun K' hK => ?_
    go_simp
    refine hK _ _ ⟨hSq, ?_⟩
    clear hK K'
    refine wpOp_of rfl fun K' hK => ?_
    go_simp
    refine hK _ _ ⟨(hSq.set hl1).set hl1, ?_⟩
    clear hK K'
    refine wpOp_of rfl fun K' hK => ?_
    go_simp
    refine hK _ _ ⟨(hSq.set hl1).set hl1, ?_⟩
    clear hK K'
    refine NoPanic.normal ?_
    go_wp2_with fail
    go_meet
    exact ⟨k, k', rfl, rfl, hk1', hl1', hBq.other2 hne _ _, hBr.set _ _, hR.ext ((hSq.set hl1).set hl1), xw.trans ((hSq.set hl1).set hl1)⟩
  case rest =>
    obtain ⟨k7, k8, rfl, rfl, z7, z8, hQ, hT, hR, xw⟩ := hcut
    rw [HR.out.1] at hT
    have n7 : ¬ k7 = w.heap.size + 1 := by omega
    have n8 : ¬ k8 = w.heap.size + 1 := by omega
    have n9 : ¬ w.heap.size + 1 = k7 := by omega
    have n10 : ¬ w.heap.size + 1 = k8 := by omega
    clear hA SW
    have hQ_0 := hQ.c0; have hQ_1 := hQ.c1; have hT_0 := hT.c0; have hT_1 := hT.c1; have hR_0 := hR.c0; have hR_1 := hR.c1
    have hR_2 := hR.f0; have hR_3 := hR.f1
    go_wp2_with fail
    go_region
    go_wp2_with fail
    refine bodyPost_ret (v := .tuple #[.agg #[.int .i64 (hi (a.fdiv n)), .int .u64 (lo (a.fdiv n))], .int .i64 (a.fmod n), .int .i64 0]) (by simp [results, Tryz.results118, go_sem, hR_0, hR_1]) rfl ⟨rfl, ?_⟩
    exact Ext.drew (Ext.set (Ext.set xw (by omega)) (by omega))
end Go.Proofs.YthoedmikfpbfnaaGreat

/-
  divide.Gcd.
-/
namespace Go.Proofs.YthoedmikfpbfnaaGreat
open Go Go.RowKit

/-- The number that the two cells of block k hold. -/
def held (k : Nat) (w : World) : Nat :=
  match w.cell? ⟨k, 0, none⟩, w.cell? ⟨k, 1, none⟩ with
  | some (.int _ h), some (.int _ l) => (h * 18446744073709551616 + l).toNat
  | _, _ => 0
theorem held_box {w : World} {k : Nat} {t : TypeId} {n : Nat} (h : Box2 w k (.int .u64 (hi n)) (.int .u64 (lo n)) t) : held k w = n := by
  unfold held
  rw [h.c0, h.c1]
  show ((hi n) * 18446744073709551616 + lo n).toNat = n
  rw [← hi_lo]
  exact Int.toNat_natCast n
theorem gcd_step (b c : Nat) : Nat.gcd b c = Nat.gcd c (b % c) := by rw [Nat.gcd_comm, Nat.gcd_rec, Nat.gcd_comm]
/-- over is right at all numbers up to M. -/
def OverTo (M : Nat) : Prop := ∀ b d : Nat, b ≤ M → 0 < d → d ≤ M → OverC (b : Int) (d : Int)

set_option maxRecDepth 100000 in
set_option maxHeartbeats 1600000 in
theorem dgcd (M b0 c0 : Nat) (w : World) (hb : b0 ≤ M) (hc : c0 ≤ M) (ho : OverTo M) :
    Calls Tryz.prog 94 #[.agg #[.int .u64 (hi b0), .int .u64 (lo b0)], .agg #[.int .u64 (hi c0), .int .u64 (lo c0)]] w
      (fun e w' => e = .returned (.agg #[.int .u64 (hi ((Nat.gcd b0 c0 : Nat) : Int)), .int .u64 (lo ((Nat.gcd b0 c0 : Nat) : Int))]) ∧ Ext w w') := by
  have H1 := Lib.hid ho
  clear ho
  go_enter Tryz.func94, Tryz.ntmps94
  go_wp2_with fail
  obtain ⟨W, hW⟩ : ∃ W, W = ((w.alloc (.cells #[.int .u64 (hi b0), .int .u64 (lo b0)] 139)).alloc (.cells #[.int .u64 (hi c0), .int .u64 (lo c0)] 139)).alloc (.cells #[.int .u64 0, .int .u64 0] 139) := ⟨_, rfl⟩
  rw [← hW]
  have hB : Box2 W w.heap.size (.int .u64 (hi b0)) (.int .u64 (lo b0)) 139 := by rw [hW]; exact ((Box2.new rfl).alloc _).alloc _
  have hC : Box2 W (w.heap.size + 1) (.int .u64 (hi c0)) (.int .u64 (lo c0)) 139 := by rw [hW]; exact (Box2.new (by simp)).alloc _
  have hR : Box2 W (w.heap.size + 1 + 1) (.int .u64 0) (.int .u64 0) 139 := by rw [hW]; exact Box2.new (by simp)
  have xw : Ext w W := by rw [hW]; exact (Ext.refl w).alloc.alloc.alloc
  clear hW
  go_loopw [5] (fun _ wr => ∃ k c : Nat, k ≤ M ∧ c ≤ M ∧ Nat.gcd k c = Nat.gcd b0 c0 ∧ Box2 wr w.heap.size (.int .u64 (hi k)) (.int .u64 (lo k)) 139 ∧
    Box2 wr (w.heap.size + 1) (.int .u64 (hi c)) (.int .u64 (lo c)) 139 ∧ Box2 wr (w.heap.size + 1 + 1) (.int .u64 0) (.int .u64 0) 139 ∧ Ext w wr) (fun _ wr => held (w.heap.size + 1) wr)
  case atStart => exact ⟨b0, c0, hb, hc, rfl, hB, hC, hR, xw⟩
  case round =>
    clear hB hC hR xw hb hc
    obtain ⟨k, c, hk, hc, hg, hB, hC, hR, xw⟩ := hrel
    have HG := Lib.hid hg
    have hm := Lib.hid (held_box hC)
    clear hg
    have hB_0 := hB.c0; have hB_1 := hB.c1; have hC_0 := hC.c0; have hC_1 := hC.c1
    by_cases hc0 : c = 0
    · have g1 : (hi (c : Int) == 0) = true := by subst hc0; rfl
      have g2 : (lo (c : Int) == 0) = true := by subst hc0; rfl
      have HC0 := Lib.hid hc0
      clear hc0
      have hR_0 := hR.c0; have hR_1 := hR.c1
      have hR_2 := hR.f0; have hR_3 := hR.f1
      go_wp2_with fail
      have hgk : Nat.gcd b0 c0 = k := by rw [← HG.out, HC0.out, Nat.gcd_zero_right]
      refine bodyPost_ret (v := .agg #[.int .u64 (hi (k : Int)), .int .u64 (lo (k : Int))]) (by simp [results, Tryz.results94, go_sem, hR_0, hR_1]) rfl ⟨by rw [hgk], Ext.set (Ext.set xw (by omega)) (by omega)⟩
    · by_cases hz : hi (c : Int) = 0
      · have g1 : (hi (c : Int) == 0) = true := by simpa using hz
        have g2 : (lo (c : Int) == 0) = false := by
          simp only [beq_eq_false_iff_ne, ne_eq]; intro h; have := hi_lo (c : Int); omega
        clear hz
        obtain ⟨q, hq⟩ : ∃ q : Nat, q = k / c := ⟨_, rfl⟩
        obtain ⟨r, hr⟩ : ∃ r : Nat, r = k % c := ⟨_, rfl⟩
        have hrc : r < c := by rw [hr]; exact Nat.mod_lt _ (by omega)
        have HQ := Lib.hid (show ((k : Int) / (c : Int)) = (q : Int) by rw [hq]; omega)
        have HS := Lib.hid (show ((k : Int) % (c : Int)) = (r : Int) by rw [hr]; omega)
        have HN := Lib.hid (show Nat.gcd c r = Nat.gcd b0 c0 by rw [hr, ← gcd_step, HG.out])
        clear hq hr
        go_wp2_with fail
        refine (H1.out k c hk (by omega) hc _).mono ?_
        rw [HQ.out, HS.out]
        rintro e w1 ⟨rfl, x1⟩
        clear hB_0 hB_1 hC_0 hC_1
        (first | replace xw := Ext.trans xw x1 | replace xw := Ext.trans (Ext.alloc xw) x1 | replace xw := Ext.trans (Ext.drew xw) x1 | replace xw := Ext.trans (Ext.alloc (Ext.drew xw)) x1); (first | replace hB := hB.ext x1 | replace hB := (hB.alloc _).ext x1 | replace hB := hB.drew.ext x1 | replace hB := (hB.drew.alloc _).ext x1); (first | replace hC := hC.ext x1 | replace hC := (hC.alloc _).ext x1 | replace hC := hC.drew.ext x1 | replace hC := (hC.drew.alloc _).ext x1); (first | replace hR := hR.ext x1 | replace hR := (hR.alloc _).ext x1 | replace hR := hR.drew.ext x1 | replace hR := (hR.drew.alloc _).ext x1)
        have y1 := hR.kind.lt
        obtain ⟨V, hV⟩ : ∃ V, V = (w1.alloc (.cells #[.int .u64 (hi (q : Int)), .int .u64 (lo (q : Int))] 139)).alloc (.cells #[.int .u64 (hi (r : Int)), .int .u64 (lo (r : Int))] 139) := ⟨_, rfl⟩
        have hT : Box2 V (w1.heap.size + 1) (.int .u64 (hi (r : Int))) (.int .u64 (lo (r : Int))) 139 := by rw [hV]; exact Box2.new (by simp)
        replace hB := hB.named2 hV
        replace hC := hC.named2 hV
        replace hR := hR.named2 hV
        replace xw : Ext w V := by rw [hV]; exact Ext.alloc (Ext.alloc xw)
        go_wp2_with fail
        rw [← hV]
        clear hV x1
        have n1 : ¬ w1.heap.size + 1 = w.heap.size := by omega
        have n2 : ¬ w.heap.size = w1.heap.size + 1 := by omega
        have n3 : ¬ w1.heap.size = w.heap.size := by omega
        have n4 : ¬ w.heap.size = w1.heap.size := by omega
        have hB_0 := hB.c0; have hB_1 := hB.c1; have hC_0 := hC.c0; have hC_1 := hC.c1; have hT_0 := hT.c0; have hT_1 := hT.c1
        have hB_2 := hB.f0; have hB_3 := hB.f1; have hC_2 := hC.f0; have hC_3 := hC.f1
        go_region
        have f1 := (hB.set (.int .u64 (hi (c : Int))) (.int .u64 (lo (c : Int)))).other2 (b := w.heap.size + 1) (by omega) (.int .u64 (hi (r : Int))) (.int .u64 (lo (r : Int)))
        have f2 := (hC.other2 (b := w.heap.size) (by omega) (.int .u64 (hi (c : Int))) (.int .u64 (lo (c : Int)))).set (.int .u64 (hi (r : Int))) (.int .u64 (lo (r : Int)))
        have f3 := (hR.other2 (b := w.heap.size) (by omega) (.int .u64 (hi (c : Int))) (.int .u64 (lo (c : Int)))).other2 (b := w.heap.size + 1) (by omega) (.int .u64 (hi (r : Int))) (.int .u64 (lo (r : Int)))
        have f4 : Ext w ((((V.setCell ⟨w.heap.size, 0, none⟩ (.int .u64 (hi (c : Int)))).setCell ⟨w.heap.size, 1, none⟩ (.int .u64 (lo (c : Int)))).setCell ⟨w.heap.size + 1, 0, none⟩ (.int .u64 (hi (r : Int)))).setCell ⟨w.heap.size + 1, 1, none⟩ (.int .u64 (lo (r : Int)))) := Ext.set (Ext.set (Ext.set (Ext.set xw (by omega)) (by omega)) (by omega)) (by omega)
        go_wp2_with fail
        go_roundw
        case rel => exact ⟨c, r, hc, by omega, HN.out, f1.drew, f2.drew, f3.drew, f4.drew⟩
        case measure => rw [hm.out, held_box f2.drew]; exact hrc
      · have g1 : (hi (c : Int) == 0) = false := by simpa using hz
        clear hz
        obtain ⟨q, hq⟩ : ∃ q : Nat, q = k / c := ⟨_, rfl⟩
        obtain ⟨r, hr⟩ : ∃ r : Nat, r = k % c := ⟨_, rfl⟩
        have hrc : r < c := by rw [hr]; exact Nat.mod_lt _ (by omega)
        have HQ := Lib.hid (show ((k : Int) / (c : Int)) = (q : Int) by rw [hq]; omega)
        have HS := Lib.hid (show ((k : Int) % (c : Int)) = (r : Int) by rw [hr]; omega)
        have HN := Lib.hid (show Nat.gcd c r = Nat.gcd b0 c0 by rw [hr, ← gcd_step, HG.out])
        clear hq hr
        go_wp2_with fail
        refine (H1.out k c hk (by omega) hc _).mono ?_
        rw [HQ.out, HS.out]
        rintro e w1 ⟨rfl, x1⟩
        clear hB_0 hB_1 hC_0 hC_1
        (first | replace xw := Ext.trans xw x1 | replace xw := Ext.trans (Ext.alloc xw) x1 | replace xw := Ext.trans (Ext.drew xw) x1 | replace xw := Ext.trans (Ext.alloc (Ext.drew xw)) x1); (first | replace hB := hB.ext x1 | replace hB := (hB.alloc _).ext x1 | replace hB := hB.drew.ext x1 | replace hB := (hB.drew.alloc _).ext x1); (first | replace hC := hC.ext x1 | replace hC := (hC.alloc _).ext x1 | replace hC := hC.drew.ext x1 | replace hC := (hC.drew.alloc _).ext x1); (first | replace hR := hR.ext x1 | replace hR := (hR.alloc _).ext x1 | replace hR := hR.drew.ext x1 | replace hR := (hR.drew.alloc _).ext x1)
        have y1 := hR.kind.lt
        obtain ⟨V, hV⟩ : ∃ V, V = (w1.alloc (.cells #[.int .u64 (hi (q : Int)), .int .u64 (lo (q : Int))] 139)).alloc (.cells #[.int .u64 (hi (r : Int)), .int .u64 (lo (r : Int))] 139) := ⟨_, rfl⟩
        have hT : Box2 V (w1.heap.size + 1) (.int .u64 (hi (r : Int))) (.int .u64 (lo (r : Int))) 139 := by rw [hV]; exact Box2.new (by simp)
        replace hB := hB.named2 hV
        replace hC := hC.named2 hV
        replace hR := hR.named2 hV
        replace xw : Ext w V := by rw [hV]; exact Ext.alloc (Ext.alloc xw)
        go_wp2_with fail
        rw [← hV]
        clear hV x1
        have n1 : ¬ w1.heap.size + 1 = w.heap.size := by omega
        have n2 : ¬ w.heap.size = w1.heap.size + 1 := by omega
        have n3 : ¬ w1.heap.size = w.heap.size := by omega
        have n4 : ¬ w.heap.size = w1.heap.size := by omega
        have hB_0 := hB.c0; have hB_1 := hB.c1; have hC_0 := hC.c0; have hC_1 := hC.c1; have hT_0 := hT.c0; have hT_1 := hT.c1
        have hB_2 := hB.f0; have hB_3 := hB.f1; have hC_2 := hC.f0; have hC_3 := hC.f1
        go_region
        have f1 := (hB.set (.int .u64 (hi (c : Int))) (.int .u64 (lo (c : Int)))).other2 (b := w.heap.size + 1) (by omega) (.int .u64 (hi (r : Int))) (.int .u64 (lo (r : Int)))
        have f2 := (hC.other2 (b := w.heap.size) (by omega) (.int .u64 (hi (c : Int))) (.int .u64 (lo (c : Int)))).set (.int .u64 (hi (r : Int))) (.int .u64 (lo (r : Int)))
        have f3 := (hR.other2 (b := w.heap.size) (by omega) (.int .u64 (hi (c : Int))) (.int .u64 (lo (c : Int)))).other2 (b := w.heap.size + 1) (by omega) (.int .u64 (hi (r : Int))) (.int .u64 (lo (r : Int)))
        have f4 : Ext w ((((V.setCell ⟨w.heap.size, 0, none⟩ (.int .u64 (hi (c : Int)))).setCell ⟨w.heap.size, 1, none⟩ (.int .u64 (lo (c : Int)))).setCell ⟨w.heap.size + 1, 0, none⟩ (.int .u64 (hi (r : Int)))).setCell ⟨w.heap.size + 1, 1, none⟩ (.int .u64 (lo (r : Int)))) := Ext.set (Ext.set (Ext.set (Ext.set xw (by omega)) (by omega)) (by omega)) (by omega)
        go_wp2_with fail
        go_roundw
        case rel => exact ⟨c, r, hc, by omega, HN.out, f1.drew, f2.drew, f3.drew, f4.drew⟩
        case measure => rw [hm.out, held_box f2.drew]; exact hrc

end Go.Proofs.YthoedmikfpbfnaaGreat

/-
  The reference's Told and Floor of layer 3.
-/
namespace Go.Proofs.YthoedmikfpbfnaaGreat
open Go Go.RowKit

theorem IsZ.named2 {V w : World} {neg : Bool} {sv : Value} {n : Int} {o o' : Obj} (h : IsZ w neg sv n) (e : V = (w.alloc o).alloc o') : IsZ V neg sv n := by rw [e]; exact (h.alloc o).alloc o'
end Go.Proofs.YthoedmikfpbfnaaGreat

/-
  What every right program answers: alive of layer 3.
-/
namespace Go.Proofs.YthoedmikfpbfnaaGreat
open Go Go.RowKit

end Go.Proofs.YthoedmikfpbfnaaGreat

/-
  The law DivideBys, walked.
-/
namespace Go.Proofs.YthoedmikfpbfnaaGreat
open Go Go.RowKit

end Go.Proofs.YthoedmikfpbfnaaGreat
end
section
/-
  divide.bare.down: the iterator over a number's bits, the highest one first: its contract for a range over a function.
-/
namespace Go.Proofs.YthoedmikfpbfnaaGreat
open Go Go.RowKit Go.Shelf
attribute [local go_sem] Oper.semAt_some

/-- A bit. -/
abbrev Bit := { x : Int // x = 0 ∨ x = 1 }
def bitAt (b : Int) (i : Nat) : Bit := ⟨shr b i % 2, by omega⟩
/-- The bits that have come when k rounds are over. -/
def bitsOf (b : Int) (k : Nat) : List Bit := (List.range k).map fun j => bitAt b (127 - j)
theorem bitsOf_succ (b : Int) (k : Nat) : bitsOf b (k + 1) = bitsOf b k ++ [bitAt b (127 - k)] := by simp [bitsOf, List.range_succ]

theorem and_one (x : Int) (h0 : 0 ≤ x) (h1 : x < 18446744073709551616) : bits .and .u64 x 1 = x % 2 := by
  obtain ⟨X, rfl⟩ := Int.eq_ofNat_of_zero_le h0
  have h := bits_and_u64_nat X 1 (by omega) (by omega)
  have e : X &&& 1 = X % 2 := Nat.and_two_pow_sub_one_eq_mod X 1
  rw [e] at h
  exact h
theorem shr_lt {x : Int} (h0 : 0 ≤ x) (h1 : x < 18446744073709551616) (s : Nat) : 0 ≤ x / 2 ^ s ∧ x / 2 ^ s < 18446744073709551616 := by
  have := shr_nonneg h0 s
  have := shr_le h0 s
  rw [shr_pow] at *
  omega
theorem bit_hi {b : Int} (hb : U128 b) {k : Nat} (hk : k ≤ 63) : bits .and .u64 (hi b / 2 ^ ((127 - k) % 64)) 1 = (bitAt b (127 - k)).1 := by
  obtain ⟨a2, a3⟩ := hi_U hb
  obtain ⟨c0, c1⟩ := shr_lt a2 a3 ((127 - k) % 64)
  rw [and_one _ c0 c1]
  show _ = shr b (127 - k) % 2
  rw [show 127 - k = 64 + (127 - k) % 64 by omega, shr_add, shr_pow, shr_pow, show (64 + (127 - k) % 64) % 64 = (127 - k) % 64 by omega]
  rfl
theorem lo_bit (b : Int) {s : Nat} (hs : s ≤ 63) : lo b / 2 ^ s % 2 = shr b s % 2 := by
  rw [shr_pow]
  unfold lo
  have e : (18446744073709551616 : Int) = 2 ^ s * (2 * 2 ^ (63 - s)) := by
    rw [show (2 : Int) * 2 ^ (63 - s) = 2 ^ (64 - s) by rw [show 64 - s = (63 - s) + 1 by omega, Int.pow_succ, Int.mul_comm], ← Int.pow_add, show s + (64 - s) = 64 by omega]; rfl
  have hp : (0 : Int) < 2 ^ s := Int.pow_pos (by omega)
  have h1 : b % 18446744073709551616 = b - 18446744073709551616 * (b / 18446744073709551616) := by omega
  rw [h1]
  generalize b / 18446744073709551616 = c
  have h2 : b - 18446744073709551616 * c = b + 2 ^ s * (-(2 * 2 ^ (63 - s) * c)) := by
    conv => lhs; rw [e]
    rw [Int.mul_neg, Int.mul_assoc (2 ^ s)]; rfl
  rw [h2, Int.add_mul_ediv_left _ _ (by omega), Int.mul_assoc]
  generalize 2 ^ (63 - s) * c = d
  generalize b / 2 ^ s = f
  omega
theorem bit_lo {b : Int} {k : Nat} (hk : 64 ≤ k) (hk2 : k ≤ 127) : bits .and .u64 (lo b / 2 ^ ((127 - k) % 64)) 1 = (bitAt b (127 - k)).1 := by
  obtain ⟨a2, a3⟩ := lo_bd b
  obtain ⟨c0, c1⟩ := shr_lt a2 a3 ((127 - k) % 64)
  rw [and_one _ c0 c1, lo_bit _ (by omega)]
  show _ = shr b (127 - k) % 2
  rw [show (127 - k) % 64 = 127 - k by omega]

set_option maxRecDepth 100000 in
set_option maxHeartbeats 1600000 in
theorem down_in (l Bn : Nat) (b : Int) (hb : U128 b) (J Jx : List Bit → World → Prop)
    (hY : ∀ pre (x : Bit) W, J pre W → pre.length < 128 → YieldAt Fence.wide 8 Tryz.prog l #[.int .u64 x.1] W fun e W' =>
      (e = .returned (.bool true) ∧ J (pre ++ [x]) W' ∧ W'.heap[Bn]? = W.heap[Bn]?) ∨ (e = .returned (.bool false) ∧ Jx (pre ++ [x]) W'))
    (W : World) (hB : Box2 W Bn (.int .u64 (hi b)) (.int .u64 (lo b)) 139) (h0 : J [] W) :
    CallsIn Fence.wide 9 Tryz.prog 164 #[.func (.yield l) #[] #[], .pointer (some ⟨Bn, 0, none⟩)] W fun e W' => (∃ v, e = .returned v) ∧
      ((∃ ys, ys = bitsOf b 128 ∧ J ys W') ∨ (∃ pre, pre.length ≤ 128 ∧ Jx pre W')) := by
  obtain ⟨a0, a1⟩ := lo_bd b
  obtain ⟨a2, a3⟩ := hi_U hb
  refine callsIn_of_wp Tryz.func164 rfl trivial ?_ rfl
  simp only [Tryz.ntmps164, List.size_toArray, List.length_cons, List.length_nil, Nat.reduceAdd, Nat.reduceSub, Array.replicate_succ, Array.replicate_zero, List.push_toArray, List.append_toArray, List.nil_append, List.cons_append]
  gi_wp2
  gi_loopw [3, 4] (fun p q wr => ∃ k : Nat, k ≤ 128 ∧ p = .int .i64 (127 - k) ∧ Box2 wr Bn (.int .u64 (hi b)) (.int .u64 (lo b)) 139 ∧ J (bitsOf b k) wr)
    (fun p q wr => (intOf p + 1).toNat)
  case atStart =>
    exact ⟨0, by omega, rfl, hB, h0⟩
  case round =>
    obtain ⟨k, hk, rfl, hBr, hJ⟩ := hrel
    have hc0 := hBr.c0
    have hc1 := hBr.c1
    by_cases hk8 : k = 128
    · subst hk8
      gi_wp2
      go_end0
      exact ⟨⟨_, rfl⟩, .inl ⟨_, rfl, hJ⟩⟩
    · obtain ⟨fn, tmps, assign, body, hy, hR⟩ := hY (bitsOf b k) (bitAt b (127 - k)) wr hJ (by simp [bitsOf]; omega)
      by_cases hk6 : k ≤ 63
      · rw [← bit_hi hb hk6] at hy
        gi_wp2
        refine hR.mono ?_
        rintro e W3 (⟨rfl, hJ3, hk3⟩ | ⟨rfl, hJx3⟩)
        · gi_wp2
          go_roundw
          case rel => exact ⟨k + 1, by omega, by congr 1; omega, hk3.trans hBr, by rw [bitsOf_succ]; exact hJ3⟩
          case measure => simp [intOf]; omega
        · gi_wp2
          refine bodyPost_ret (results_none rfl _ _ _) rfl ?_
          exact ⟨⟨_, rfl⟩, .inr ⟨bitsOf b k ++ [bitAt b (127 - k)], by simp [bitsOf]; omega, hJx3⟩⟩
      · rw [← bit_lo (show 64 ≤ k by omega) (show k ≤ 127 by omega)] at hy
        gi_wp2
        refine hR.mono ?_
        rintro e W3 (⟨rfl, hJ3, hk3⟩ | ⟨rfl, hJx3⟩)
        · gi_wp2
          go_roundw
          case rel => exact ⟨k + 1, by omega, by congr 1; omega, hk3.trans hBr, by rw [bitsOf_succ]; exact hJ3⟩
          case measure => simp [intOf]; omega
        · gi_wp2
          refine bodyPost_ret (results_none rfl _ _ _) rfl ?_
          exact ⟨⟨_, rfl⟩, .inr ⟨bitsOf b k ++ [bitAt b (127 - k)], by simp [bitsOf]; omega, hJx3⟩⟩
/-- The iterator's contract: it reads its own box alone. -/
theorem down_stops (Bn : Nat) (b : Int) (hb : U128 b) (w : World) (hB : Box2 w Bn (.int .u64 (hi b)) (.int .u64 (lo b)) 139) :
    SeqStopsK Fence.wide 9 Tryz.prog 164 #[.pointer (some ⟨Bn, 0, none⟩)] (fun x : Bit => #[Value.int .u64 x.1]) (fun W W' => W'.heap[Bn]? = W.heap[Bn]?) (fun ys => ys = bitsOf b 128) (fun pre => pre.length ≤ 128) 128 w := fun l J Jx W hW _ _ hY h0 =>
  down_in l Bn b hb J Jx hY W (hB.below hW) h0
end Go.Proofs.YthoedmikfpbfnaaGreat

/-
  divide.bare: less, down.
-/
namespace Go.Proofs.YthoedmikfpbfnaaGreat
open Go Go.RowKit

theorem lt_hl (x y : Int) : (decide (hi x < hi y) || (hi x == hi y && decide (lo x < lo y))) = decide (x < y) := by
  have e1 := hi_lo x
  have e2 := hi_lo y
  have l1 := lo_bd x
  have l2 := lo_bd y
  rw [Bool.eq_iff_iff]
  simp only [Bool.or_eq_true, Bool.and_eq_true, decide_eq_true_eq, beq_iff_eq]
  generalize hi x = X at *
  generalize hi y = Y at *
  generalize lo x = x0 at *
  generalize lo y = y0 at *
  omega
set_option maxRecDepth 100000 in
set_option maxHeartbeats 1600000 in
theorem dless (x y : Int) (w : World) :
    Calls Tryz.prog 138 #[.agg #[.int .u64 (hi x), .int .u64 (lo x)], .agg #[.int .u64 (hi y), .int .u64 (lo y)]] w (fun e w' => e = .returned (.bool (decide (x < y))) ∧ w' = (w.alloc (.cells #[.int .u64 (hi x), .int .u64 (lo x)] 139)).alloc (.cells #[.int .u64 (hi y), .int .u64 (lo y)] 139)) := by
  have HE := Lib.hid (lt_hl x y)
  go_enter Tryz.func138, Tryz.ntmps138
  go_wp2
  all_goals
    have he := HE.out
    clear HE
    go_ret
    refine ⟨?_, by simp_all⟩
    rw [← he]
    clear he
    simp_all
set_option maxRecDepth 100000 in
set_option maxHeartbeats 1600000 in
theorem ddown (b : Int) (w : World) :
    Calls Tryz.prog 137 #[.agg #[.int .u64 (hi b), .int .u64 (lo b)]] w (fun e w' => e = .returned (.func (.func 164) #[] #[.pointer (some ⟨w.heap.size, 0, none⟩)]) ∧ w' = w.alloc (.cells #[.int .u64 (hi b), .int .u64 (lo b)] 139)) := by
  go_enter Tryz.func137, Tryz.ntmps137
  go_wp2
  go_ret
  exact ⟨rfl, rfl⟩
end Go.Proofs.YthoedmikfpbfnaaGreat

/-
  divide.bare.over by a number of more than 64 bits: the range over a number's bits.
-/
namespace Go.Proofs.YthoedmikfpbfnaaGreat
open Go Go.RowKit Go.Shelf
attribute [local go_sem] Oper.semAt_some

def valB (xs : List Bit) : Int := xs.foldl (fun v x => 2 * v + x.1) 0
theorem valB_snoc (xs : List Bit) (x : Bit) : valB (xs ++ [x]) = 2 * valB xs + x.1 := by simp [valB]
theorem fold_lt (xs : List Bit) (v : Int) (h0 : 0 ≤ v) (m : Nat) (h1 : v < 2 ^ m) : 0 ≤ xs.foldl (fun v x => 2 * v + x.1) v ∧ xs.foldl (fun v x => 2 * v + x.1) v < 2 ^ (m + xs.length) := by
  induction xs generalizing v m with
  | nil => exact ⟨h0, h1⟩
  | cons x xs ih =>
    have := x.2
    have h := ih (2 * v + x.1) (by omega) (m + 1) (by rw [Int.pow_succ]; omega)
    rw [show m + 1 + xs.length = m + (x :: xs).length by simp; omega] at h
    exact h
theorem valB_lt (xs : List Bit) : 0 ≤ valB xs ∧ valB xs < 2 ^ xs.length := by
  have h := fold_lt xs 0 (by omega) 0 (by decide)
  rw [Nat.zero_add] at h
  exact h
theorem valB_bits {b : Int} (hb : U128 b) (k : Nat) (hk : k ≤ 128) : valB (bitsOf b k) = shr b (128 - k) := by
  induction k with
  | zero =>
    show (0 : Int) = shr b 128
    rw [shr_top hb.1]
    exact hb.2
  | succ k ih =>
    rw [bitsOf_succ, valB_snoc, ih (by omega)]
    show 2 * _ + shr b (127 - k) % 2 = _
    have e := shr_succ b (127 - k)
    rw [show 128 - k = 127 - k + 1 by omega, e, show 128 - (k + 1) = 127 - k by omega]
    omega
theorem valB_all {b : Int} (hb : U128 b) : valB (bitsOf b 128) = b := by rw [valB_bits hb 128 (by omega)]; exact shr_zero b

/-- A block of two cells, of what has come. -/
theorem box_own {β : Type} (k : Nat) (t : TypeId) (f g : β → Value) : Go.Own (fun s W => Box2 W k (f s) (g s) t) := fun _ _ _ _ hs hg hr =>
  (grownBy_keeps_cells hg hr hs rfl).trans hs

theorem twice_hi {r x : Int} (r0 : 0 ≤ r) (hx : x = 0 ∨ x = 1) (h : 2 * r + x < 340282366920938463463374607431768211456) : bits .or .u64 (IntKind.u64.wrap (hi r * 2)) (lo r / 9223372036854775808) = hi (2 * r + x) := by
  have e := or_add (hi r) (lo r / 9223372036854775808) 1
  rw [show (2 : Int) ^ 1 = 2 from rfl] at e
  rw [u64_id (by unfold hi; omega) (by unfold hi; omega), e (by unfold hi; omega) (by unfold lo; omega) (by unfold hi; omega) (by unfold lo; omega) (by unfold hi lo; omega)]
  unfold hi lo
  omega
theorem twice_lo (r : Int) {x : Int} (hx : x = 0 ∨ x = 1) : bits .or .u64 (IntKind.u64.wrap (lo r * 2)) x = lo (2 * r + x) := by
  have e := or_add (lo r % 9223372036854775808) x 1
  rw [show (2 : Int) ^ 1 = 2 from rfl] at e
  rw [show IntKind.u64.wrap (lo r * 2) = lo r % 9223372036854775808 * 2 by rw [u64_eq]; omega, e (by omega) (by omega) (by omega) (by omega) (by omega)]
  unfold lo
  omega
theorem twice_low (q : Int) : IntKind.u64.wrap (lo q * 2) = lo (2 * q) := by rw [u64_eq]; unfold lo; omega
theorem twice_odd (q : Int) : bits .or .u64 (lo (2 * q)) 1 = lo (2 * q + 1) := by
  have e := or_add (lo (2 * q) / 2) 1 1
  rw [show (2 : Int) ^ 1 = 2 from rfl, show lo (2 * q) / 2 * 2 = lo (2 * q) by unfold lo; omega] at e
  have := lo_bd (2 * q)
  rw [e (by omega) (by omega) (by omega) (by omega) (by unfold lo; omega)]
  unfold lo
  omega
theorem valB_pre {pre : List Bit} (h : pre.length < 128) : 0 ≤ valB pre ∧ valB pre < 170141183460469231731687303715884105728 := by
  obtain ⟨h0, h1⟩ := valB_lt pre
  have h2 : ((2 ^ pre.length : Nat) : Int) ≤ ((2 ^ 127 : Nat) : Int) := Int.ofNat_le.2 (Nat.pow_le_pow_right (by omega) (by omega))
  rw [Int.natCast_pow] at h2
  have h3 : (2 : Int) ^ pre.length ≤ 170141183460469231731687303715884105728 := h2
  omega
/-- One bit more. -/
theorem over_step {P d x : Int} (d0 : 18446744073709551616 ≤ d) (d1 : d ≤ 170141183460469231731687303715884105728) (P0 : 0 ≤ P) (P1 : P < 170141183460469231731687303715884105728) (hx : x = 0 ∨ x = 1) :
    0 ≤ P % d ∧ 2 * (P % d) + x < 340282366920938463463374607431768211456 ∧ 0 ≤ P / d ∧ 2 * (P / d) + 1 < 340282366920938463463374607431768211456 ∧
      (if 2 * (P % d) + x < d then (2 * P + x) / d = 2 * (P / d) ∧ (2 * P + x) % d = 2 * (P % d) + x else (2 * P + x) / d = 2 * (P / d) + 1 ∧ (2 * P + x) % d = 2 * (P % d) + x - d) := by
  have e := Int.emod_add_mul_ediv P d
  have r0 := Int.emod_nonneg P (show d ≠ 0 by omega)
  have r1 := Int.emod_lt_of_pos P (show 0 < d by omega)
  have q0 : 0 ≤ P / d := Int.ediv_nonneg P0 (by omega)
  have q1 : P / d ≤ P := Int.ediv_le_self _ P0
  generalize P / d = q at *
  generalize P % d = r at *
  refine ⟨r0, by omega, q0, by omega, ?_⟩
  have key : ∀ q' r' : Int, 2 * P + x = r' + d * q' → 0 ≤ r' → r' < d → (2 * P + x) / d = q' ∧ (2 * P + x) % d = r' := by
    intro q' r' h h0 h1
    rw [h]
    exact ⟨by rw [Int.add_mul_ediv_left _ _ (by omega), Int.ediv_eq_zero_of_lt h0 h1]; omega, by rw [Int.add_mul_emod_self_left, Int.emod_eq_of_lt h0 h1]⟩
  have m : d * (2 * q) = 2 * (d * q) := by rw [← Int.mul_assoc, Int.mul_comm d 2, Int.mul_assoc]
  split
  · exact key _ _ (by rw [m]; omega) (by omega) (by omega)
  · exact key _ _ (by rw [Int.mul_add, m]; omega) (by omega) (by omega)

/-- What the loop's cells hold: the quotient, the rest; and what stands. -/
def OverJ (w : World) (b d q r : Int) (W : World) : Prop :=
  Box2 W (w.heap.size + 1 + 1 + 1 + 1) (.int .u64 (hi q)) (.int .u64 (lo q)) 139 ∧
  Box2 W (w.heap.size + 1 + 1 + 1 + 1 + 1) (.int .u64 (hi r)) (.int .u64 (lo r)) 139 ∧
  Box2 W (w.heap.size + 1) (.int .u64 (hi d)) (.int .u64 (lo d)) 139 ∧
  Box2 W (w.heap.size + 1 + 1) (.int .u64 0) (.int .u64 0) 139 ∧ Box2 W (w.heap.size + 1 + 1 + 1) (.int .u64 0) (.int .u64 0) 139 ∧
  Box2 W (w.heap.size + 1 + 1 + 1 + 1 + 1 + 1) (.int .u64 (hi b)) (.int .u64 (lo b)) 139
def OverI (w : World) (b d : Int) (pre : List Bit) (W : World) : Prop := OverJ w b d (valB pre / d) (valB pre % d) W
theorem overI_own (w : World) (b d : Int) : Go.Own (OverI w b d) := fun s X Y row hs hg hr =>
  ⟨box_own _ _ (fun pre => .int .u64 (hi (valB pre / d))) (fun pre => .int .u64 (lo (valB pre / d))) s X Y row hs.1 hg hr,
    box_own _ _ (fun pre => .int .u64 (hi (valB pre % d))) (fun pre => .int .u64 (lo (valB pre % d))) s X Y row hs.2.1 hg hr,
    box_own _ _ (fun _ => .int .u64 (hi d)) (fun _ => .int .u64 (lo d)) s X Y row hs.2.2.1 hg hr,
    box_own _ _ (fun _ => .int .u64 0) (fun _ => .int .u64 0) s X Y row hs.2.2.2.1 hg hr,
    box_own _ _ (fun _ => .int .u64 0) (fun _ => .int .u64 0) s X Y row hs.2.2.2.2.1 hg hr,
    box_own _ _ (fun _ => .int .u64 (hi b)) (fun _ => .int .u64 (lo b)) s X Y row hs.2.2.2.2.2 hg hr⟩
theorem OverJ.alloc {w W : World} {b d q r : Int} (h : OverJ w b d q r W) (o : Obj) : OverJ w b d q r (W.alloc o) :=
  ⟨h.1.alloc o, h.2.1.alloc o, h.2.2.1.alloc o, h.2.2.2.1.alloc o, h.2.2.2.2.1.alloc o, h.2.2.2.2.2.alloc o⟩
theorem OverJ.setR {w W : World} {b d q r : Int} (h : OverJ w b d q r W) (x : Int) : OverJ w b d q x ((W.setCell ⟨w.heap.size + 1 + 1 + 1 + 1 + 1, 0, none⟩ (.int .u64 (hi x))).setCell ⟨w.heap.size + 1 + 1 + 1 + 1 + 1, 1, none⟩ (.int .u64 (lo x))) :=
  ⟨h.1.other2 (by omega) _ _, h.2.1.set _ _, h.2.2.1.other2 (by omega) _ _, h.2.2.2.1.other2 (by omega) _ _, h.2.2.2.2.1.other2 (by omega) _ _, h.2.2.2.2.2.other2 (by omega) _ _⟩
theorem OverJ.setQ {w W : World} {b d q r : Int} (h : OverJ w b d q r W) (x : Int) : OverJ w b d x r ((W.setCell ⟨w.heap.size + 1 + 1 + 1 + 1, 0, none⟩ (.int .u64 (hi x))).setCell ⟨w.heap.size + 1 + 1 + 1 + 1, 1, none⟩ (.int .u64 (lo x))) :=
  ⟨h.1.set _ _, h.2.1.other2 (by omega) _ _, h.2.2.1.other2 (by omega) _ _, h.2.2.2.1.other2 (by omega) _ _, h.2.2.2.2.1.other2 (by omega) _ _, h.2.2.2.2.2.other2 (by omega) _ _⟩
theorem OverJ.odd {w W : World} {b d q r : Int} (h : OverJ w b d (2 * q) r W) : OverJ w b d (2 * q + 1) r (W.setCell ⟨w.heap.size + 1 + 1 + 1 + 1, 1, none⟩ (.int .u64 (lo (2 * q + 1)))) := by
  refine ⟨?_, h.2.1.other (by omega) _ _, h.2.2.1.other (by omega) _ _, h.2.2.2.1.other (by omega) _ _, h.2.2.2.2.1.other (by omega) _ _, h.2.2.2.2.2.other (by omega) _ _⟩
  have e : hi (2 * q + 1) = hi (2 * q) := by unfold hi; omega
  rw [e]
  exact Joins.block_setCell (i := 1) h.1 _
theorem overI_nil {w V : World} {b d : Int} (hQ : Box2 V (w.heap.size + 1 + 1 + 1 + 1) (.int .u64 0) (.int .u64 0) 139) (hR : Box2 V (w.heap.size + 1 + 1 + 1 + 1 + 1) (.int .u64 0) (.int .u64 0) 139)
    (hD : Box2 V (w.heap.size + 1) (.int .u64 (hi d)) (.int .u64 (lo d)) 139) (h4 : Box2 V (w.heap.size + 1 + 1) (.int .u64 0) (.int .u64 0) 139) (h5 : Box2 V (w.heap.size + 1 + 1 + 1) (.int .u64 0) (.int .u64 0) 139)
    (hX : Box2 V (w.heap.size + 1 + 1 + 1 + 1 + 1 + 1) (.int .u64 (hi b)) (.int .u64 (lo b)) 139) : OverI w b d [] V := by
  have e1 : valB [] / d = 0 := Int.zero_ediv d
  have e2 : valB [] % d = 0 := Int.zero_emod d
  refine ⟨?_, ?_, hD, h4, h5, hX⟩
  · rw [e1]; exact hQ
  · rw [e2]; exact hR

theorem hi_pair {x d : Int} (d1 : d ≤ 170141183460469231731687303715884105728) (h : x < 340282366920938463463374607431768211456) (hl : ¬ x < d) (d0 : 18446744073709551616 ≤ d) :
    0 ≤ hi x ∧ hi x < 18446744073709551616 ∧ 0 ≤ hi d ∧ hi d < 18446744073709551616 := by unfold hi; omega
theorem sub_hi (x d : Int) (h0 : 0 ≤ hi x) (h1 : hi x < 18446744073709551616) (h2 : 0 ≤ hi d) (h3 : hi d < 18446744073709551616) (hl : ¬ x < d) : (hi x - hi d - bor (lo x) (lo d) 0) % 18446744073709551616 = hi (x - d) := by
  rw [bor_def]; unfold hi lo at *; omega
set_option maxRecDepth 100000 in
set_option maxHeartbeats 3200000 in
theorem over_great (b d : Int) (w : World) (hb : U128 b) (d0 : 18446744073709551616 ≤ d) (d1 : d ≤ 170141183460469231731687303715884105728) :
    Calls Tryz.prog 95 #[.agg #[.int .u64 (hi b), .int .u64 (lo b)], .agg #[.int .u64 (hi d), .int .u64 (lo d)]] w (RetB w (b / d) (b % d)) := by
  obtain ⟨W0, hW0⟩ : ∃ W0, W0 = (((((w.alloc (.cells #[.int .u64 (hi b), .int .u64 (lo b)] 139)).alloc (.cells #[.int .u64 (hi d), .int .u64 (lo d)] 139)).alloc (.cells #[.int .u64 0, .int .u64 0] 139)).alloc (.cells #[.int .u64 0, .int .u64 0] 139)).alloc (.cells #[.int .u64 0, .int .u64 0] 139)).alloc (.cells #[.int .u64 0, .int .u64 0] 139) := ⟨_, rfl⟩
  have hd : (hi d == 0) = false := by rw [beq_eq_false_iff_ne]; unfold hi; omega
  have HB := Lib.hid hb
  have HD0 := Lib.hid d0
  have HD1 := Lib.hid d1
  clear hb d0 d1
  refine (callsIn_wide (n := 10)).1 ?_
  refine callsIn_of_wp_marks Tryz.func95 rfl trivial ?_ rfl
  simp only [Tryz.ntmps95, List.size_toArray, List.length_cons, List.length_nil, Nat.reduceAdd, Nat.reduceSub, Array.replicate_succ, Array.replicate_zero, List.push_toArray, List.append_toArray, List.nil_append, List.cons_append]
  obtain ⟨z, hz⟩ : ∃ z, (hi b == 0) = z := ⟨_, rfl⟩
  cases z
  · gi_wp2_with (refine ⟨trivial, ?_⟩; gi_at_call 137; refine (callsIn_wide.2 (ddown b _)).mono ?_; rintro e w' ⟨rfl, rfl⟩)
    rw [← hW0]
    obtain ⟨V, hV⟩ : ∃ V, V = W0.alloc (.cells #[.int .u64 (hi b), .int .u64 (lo b)] 139) := ⟨_, rfl⟩
    have hX : Box2 V (w.heap.size + 1 + 1 + 1 + 1 + 1 + 1) (.int .u64 (hi b)) (.int .u64 (lo b)) 139 := by rw [hV]; exact Box2.new (by rw [hW0]; simp)
    have hD : Box2 V (w.heap.size + 1) (.int .u64 (hi d)) (.int .u64 (lo d)) 139 := by rw [hV, hW0]; exact (((((Box2.new (by simp)).alloc _).alloc _).alloc _).alloc _).alloc _
    have h4 : Box2 V (w.heap.size + 1 + 1) (.int .u64 0) (.int .u64 0) 139 := by rw [hV, hW0]; exact ((((Box2.new (by simp)).alloc _).alloc _).alloc _).alloc _
    have h5 : Box2 V (w.heap.size + 1 + 1 + 1) (.int .u64 0) (.int .u64 0) 139 := by rw [hV, hW0]; exact (((Box2.new (by simp)).alloc _).alloc _).alloc _
    have hQ : Box2 V (w.heap.size + 1 + 1 + 1 + 1) (.int .u64 0) (.int .u64 0) 139 := by rw [hV, hW0]; exact ((Box2.new (by simp)).alloc _).alloc _
    have hR : Box2 V (w.heap.size + 1 + 1 + 1 + 1 + 1) (.int .u64 0) (.int .u64 0) 139 := by rw [hV, hW0]; exact (Box2.new (by simp)).alloc _
    have xw : Ext w V := by rw [hV, hW0]; exact (Ext.refl w).alloc.alloc.alloc.alloc.alloc.alloc.alloc
    have sV : V.heap.size = w.heap.size + 7 := by rw [hV, hW0]; simp
    try rw [hW0, ← hV]
    try rw [← hV]
    clear hV hW0 W0
    refine wpIn_rangeFunc_ownF rfl (by omega) (gf := 164) (lb := #[.pointer (some ⟨w.heap.size + 1 + 1 + 1 + 1 + 1 + 1, 0, none⟩)]) rfl trivial (enters_of Tryz.func164 (by kernel_rfl) rfl)
      (down_stops (w.heap.size + 1 + 1 + 1 + 1 + 1 + 1) b HB.out V hX) (fun h k => k.trans h)
      (fun W l o o' hl h _ _ => (grownBy_putObj' W l o').block _ (by have := (Array.getElem?_eq_some_iff.1 h).1; omega) (fun e => by cases e; omega)) (Below.refl _ _) (fun _ => rfl)
      (fun pre W => OverI w b d pre W ∧ Below w.heap.size w W)
      (fun _ _ _ => False)
      (OwnFrom.and (Own.from (overI_own w b d) _) (ownFrom_below (Nat.le_refl _) (by rw [sV]; omega)))
      (fun _ _ _ _ _ hs _ _ => hs)
      ⟨overI_nil hQ hR hD h4 h5 hX, xw⟩ ?actA ?assignA ?bodyA ?doneA ?stopA
    case assignA =>
      intro l x W K hK
      gi_wp2
      exact hK
    case bodyA =>
      rintro l pre x W ⟨hJ, hBl⟩ hlt
      have hx := x.2
      obtain ⟨P0, P1⟩ := valB_pre hlt
      obtain ⟨r0, r1, q0, q1, hST⟩ := over_step (x := x.1) HD0.out HD1.out P0 P1 hx
      have HN := Lib.hid (valB_snoc pre x)
      have HST := Lib.hid hST
      have hXX : W.heap[w.heap.size + 1 + 1 + 1 + 1 + 1 + 1]? = _ := hJ.2.2.2.2.2
      clear hST P0 P1
      unfold OverI at hJ
      generalize valB pre / d = q at *
      generalize valB pre % d = r at *
      generalize x.1 = v at *
      have E1 := Lib.hid (twice_hi r0 hx r1)
      have E2 := Lib.hid (twice_lo r hx)
      have E3 := Lib.hid (twice_hi (x := 0) q0 (.inl rfl) (by omega))
      have E4 := Lib.hid (twice_low q)
      have E5 := Lib.hid (twice_odd q)
      have A1 := Lib.hid r1
      clear r1 q1 q0 r0 hx
      obtain ⟨hQ, hR, hD, h45⟩ := hJ
      have hQ_0 := hQ.c0; have hQ_1 := hQ.c1; have hR_0 := hR.c0; have hR_1 := hR.c1; have hD_0 := hD.c0; have hD_1 := hD.c1
      have hQ_2 := hQ.f0; have hQ_3 := hQ.f1; have hR_2 := hR.f0; have hR_3 := hR.f1
      gi_wp2
      clear hQ_0 hQ_1 hR_0 hR_1 hD_0 hD_1
      clear hQ_2 hQ_3 hR_2 hR_3
      rw [E1.out, E2.out, E3.out, E4.out, Int.add_zero]
      obtain ⟨W2, hW2⟩ : ∃ W2, W2 = (((W.setCell ⟨w.heap.size + 1 + 1 + 1 + 1 + 1, 0, none⟩ (.int .u64 (hi (2 * r + v)))).setCell ⟨w.heap.size + 1 + 1 + 1 + 1 + 1, 1, none⟩ (.int .u64 (lo (2 * r + v)))).setCell ⟨w.heap.size + 1 + 1 + 1 + 1, 0, none⟩ (.int .u64 (hi (2 * q)))).setCell ⟨w.heap.size + 1 + 1 + 1 + 1, 1, none⟩ (.int .u64 (lo (2 * q))) := ⟨_, rfl⟩
      rw [← hW2]
      have hJ : OverJ w b d (2 * q) (2 * r + v) W2 := by rw [hW2]; exact (OverJ.setR ⟨hQ, hR, hD, h45⟩ _).setQ _
      have hKO : KeepsOthers W W2 := by rw [hW2]; exact (((KeepsOthers.setCell _ _ _).trans (KeepsOthers.setCell _ _ _)).trans (KeepsOthers.setCell _ _ _)).trans (KeepsOthers.setCell _ _ _)
      replace hBl : Below w.heap.size w W2 := by rw [hW2]; exact below_set2 (below_set2 hBl (by omega) _ _) (by omega) _ _
      clear hW2 hQ hR hD h45
      refine ⟨trivial, (CallsIn.inRound l (callsIn_wide.2 (dless (2 * r + v) d W2))).mono ?_⟩
      rintro e w3 ⟨rfl, rfl⟩
      obtain ⟨W3, hW3⟩ : ∃ W3, W3 = (W2.alloc (.cells #[.int .u64 (hi (2 * r + v)), .int .u64 (lo (2 * r + v))] 139)).alloc (.cells #[.int .u64 (hi d), .int .u64 (lo d)] 139) := ⟨_, rfl⟩
      rw [← hW3]
      replace hJ : OverJ w b d (2 * q) (2 * r + v) W3 := by rw [hW3]; exact (hJ.alloc _).alloc _
      replace hKO : KeepsOthers W W3 := by rw [hW3]; exact (hKO.trans (KeepsOthers.alloc _ _)).trans (KeepsOthers.alloc _ _)
      replace hBl : Below w.heap.size w W3 := by rw [hW3]; exact (hBl.alloc hBl.size _).alloc (Nat.le_trans hBl.size (by simp)) _
      clear hW3
      by_cases hl : 2 * r + v < d
      · rw [decide_eq_true hl]
        gi_wp2
        have hst := HST.out
        rw [if_pos hl, ← HN.out] at hst
        refine ⟨hKO, hJ.2.2.2.2.2.trans hXX.symm, ?_, hBl⟩
        unfold OverI
        rw [hst.1, hst.2]
        exact hJ
      · rw [decide_eq_false hl]
        obtain ⟨hQ, hR, hD, h45⟩ := hJ
        have hQ_0 := hQ.c0; have hQ_1 := hQ.c1; have hR_0 := hR.c0; have hR_1 := hR.c1; have hD_0 := hD.c0; have hD_1 := hD.c1
        have hQ_2 := hQ.f0; have hQ_3 := hQ.f1; have hR_2 := hR.f0; have hR_3 := hR.f1
        have r102 := run_sub64'
        obtain ⟨l0, l1⟩ := lo_bd (2 * r + v)
        obtain ⟨l2, l3⟩ := lo_bd d
        obtain ⟨m0, m1, m2, m3⟩ := hi_pair HD1.out A1.out hl HD0.out
        have c0 : 0 ≤ bor (lo (2 * r + v)) (lo d) 0 := by rw [bor_def]; omega
        have c1 : bor (lo (2 * r + v)) (lo d) 0 ≤ 1 := by rw [bor_def]; omega
        gi_wp2
        refine ⟨trivial, ?_⟩
        gi_wp2
        refine ⟨trivial, ?_⟩
        gi_wp2
        clear r102
        rw [sub_hi _ _ m0 m1 m2 m3 (by omega), ← lo_sub, E5.out]
        have hst := HST.out
        rw [if_neg (by omega), ← HN.out] at hst
        have hJ' := (OverJ.setR ⟨hQ, hR, hD, h45⟩ (2 * r + v - d)).odd
        refine ⟨((hKO.trans (KeepsOthers.setCell _ _ _)).trans (KeepsOthers.setCell _ _ _)).trans (KeepsOthers.setCell _ _ _), hJ'.2.2.2.2.2.trans hXX.symm, ?_, (below_set2 hBl (by omega) _ _).setCell (p := ⟨_, 1, none⟩) (by simp; omega) _⟩
        unfold OverI
        rw [hst.1, hst.2]
        exact hJ'
    case doneA =>
      rintro D ys W hD' rfl ⟨⟨hQ, hR, hD, h4, h5, hX⟩, hBl⟩ hK
      rw [valB_all HB.out] at hQ hR
      generalize b / d = q at *
      generalize b % d = r at *
      have hQ_0 := hQ.c0; have hQ_1 := hQ.c1; have hR_0 := hR.c0; have hR_1 := hR.c1; have h4_0 := h4.c0; have h4_1 := h4.c1; have h5_0 := h5.c0; have h5_1 := h5.c1
      have hQ_2 := hQ.f0; have hQ_3 := hQ.f1; have hR_2 := hR.f0; have hR_3 := hR.f1; have h4_2 := h4.f0; have h4_3 := h4.f1; have h5_2 := h5.f0; have h5_3 := h5.f1
      gi_wp2
      gi_region
      gi_wp2
      obtain ⟨U, hU⟩ : ∃ U, U = ((((W.setCell ⟨w.heap.size + 1 + 1, 0, none⟩ (.int .u64 (hi q))).setCell ⟨w.heap.size + 1 + 1, 1, none⟩ (.int .u64 (lo q))).setCell ⟨w.heap.size + 1 + 1 + 1, 0, none⟩ (.int .u64 (hi r))).setCell ⟨w.heap.size + 1 + 1 + 1, 1, none⟩ (.int .u64 (lo r))).drew := ⟨_, rfl⟩
      rw [← hU]
      have k4 : Box2 U (w.heap.size + 1 + 1) (.int .u64 (hi q)) (.int .u64 (lo q)) 139 := by rw [hU]; exact ((h4.set _ _).other2 (by omega) _ _).drew
      have k5 : Box2 U (w.heap.size + 1 + 1 + 1) (.int .u64 (hi r)) (.int .u64 (lo r)) 139 := by rw [hU]; exact ((h5.other2 (by omega) _ _).set _ _).drew
      have hKU : U.heap[D]? = some (.deferred (some [])) := by
        rw [hU]
        exact (((((KeepsOthers.setCell _ _ _).trans (KeepsOthers.setCell _ _ _)).trans (KeepsOthers.setCell _ _ _)).trans (KeepsOthers.setCell _ _ _)).trans (KeepsOthers.drew _)).same D _ hK rfl
      have hBU : Ext w U := by rw [hU]; exact Ext.drew (below_set2 (below_set2 hBl (by omega) _ _) (by omega) _ _)
      clear hU
      refine ⟨by simp, .inl ⟨_, _, rfl, run_takeDeferred hKU, ?_⟩⟩
      have g4 : Box2 (U.putObj D (.deferred none)) (w.heap.size + 1 + 1) (.int .u64 (hi q)) (.int .u64 (lo q)) 139 := (grownBy_keeps_cells (grownBy_putObj' _ D (.deferred none)) (fun r e => by cases e; exact ⟨_, hKU, rfl⟩) k4 rfl).trans k4
      have g5 : Box2 (U.putObj D (.deferred none)) (w.heap.size + 1 + 1 + 1) (.int .u64 (hi r)) (.int .u64 (lo r)) 139 := (grownBy_keeps_cells (grownBy_putObj' _ D (.deferred none)) (fun r e => by cases e; exact ⟨_, hKU, rfl⟩) k5 rfl).trans k5
      have g6 := g4.c0
      have g7 := g4.c1
      have g8 := g5.c0
      have g9 := g5.c1
      refine ⟨.tuple #[.agg #[.int .u64 (hi q), .int .u64 (lo q)], .agg #[.int .u64 (hi r), .int .u64 (lo r)]], ?_, rfl, Below.trans hBU (belowK_b (w := w) (Nat.le_refl _) U D _ _ (by omega) hKU rfl rfl)⟩
      simp [results, Tryz.results95, go_sem, g6, g7, g8, g9]
    case stopA =>
      rintro D c pre W _ _ h _
      exact h.elim
  · gi_wp2_with (refine ⟨trivial, ?_⟩; gi_at_call 137; refine (callsIn_wide.2 (ddown b _)).mono ?_; rintro e w' ⟨rfl, rfl⟩)
    rw [← hW0]
    obtain ⟨V, hV⟩ : ∃ V, V = W0.alloc (.cells #[.int .u64 (hi b), .int .u64 (lo b)] 139) := ⟨_, rfl⟩
    have hX : Box2 V (w.heap.size + 1 + 1 + 1 + 1 + 1 + 1) (.int .u64 (hi b)) (.int .u64 (lo b)) 139 := by rw [hV]; exact Box2.new (by rw [hW0]; simp)
    have hD : Box2 V (w.heap.size + 1) (.int .u64 (hi d)) (.int .u64 (lo d)) 139 := by rw [hV, hW0]; exact (((((Box2.new (by simp)).alloc _).alloc _).alloc _).alloc _).alloc _
    have h4 : Box2 V (w.heap.size + 1 + 1) (.int .u64 0) (.int .u64 0) 139 := by rw [hV, hW0]; exact ((((Box2.new (by simp)).alloc _).alloc _).alloc _).alloc _
    have h5 : Box2 V (w.heap.size + 1 + 1 + 1) (.int .u64 0) (.int .u64 0) 139 := by rw [hV, hW0]; exact (((Box2.new (by simp)).alloc _).alloc _).alloc _
    have hQ : Box2 V (w.heap.size + 1 + 1 + 1 + 1) (.int .u64 0) (.int .u64 0) 139 := by rw [hV, hW0]; exact ((Box2.new (by simp)).alloc _).alloc _
    have hR : Box2 V (w.heap.size + 1 + 1 + 1 + 1 + 1) (.int .u64 0) (.int .u64 0) 139 := by rw [hV, hW0]; exact (Box2.new (by simp)).alloc _
    have xw : Ext w V := by rw [hV, hW0]; exact (Ext.refl w).alloc.alloc.alloc.alloc.alloc.alloc.alloc
    have sV : V.heap.size = w.heap.size + 7 := by rw [hV, hW0]; simp
    try rw [hW0, ← hV]
    try rw [← hV]
    clear hV hW0 W0
    refine wpIn_rangeFunc_ownF rfl (by omega) (gf := 164) (lb := #[.pointer (some ⟨w.heap.size + 1 + 1 + 1 + 1 + 1 + 1, 0, none⟩)]) rfl trivial (enters_of Tryz.func164 (by kernel_rfl) rfl)
      (down_stops (w.heap.size + 1 + 1 + 1 + 1 + 1 + 1) b HB.out V hX) (fun h k => k.trans h)
      (fun W l o o' hl h _ _ => (grownBy_putObj' W l o').block _ (by have := (Array.getElem?_eq_some_iff.1 h).1; omega) (fun e => by cases e; omega)) (Below.refl _ _) (fun _ => rfl)
      (fun pre W => OverI w b d pre W ∧ Below w.heap.size w W)
      (fun _ _ _ => False)
      (OwnFrom.and (Own.from (overI_own w b d) _) (ownFrom_below (Nat.le_refl _) (by rw [sV]; omega)))
      (fun _ _ _ _ _ hs _ _ => hs)
      ⟨overI_nil hQ hR hD h4 h5 hX, xw⟩ ?actB ?assignB ?bodyB ?doneB ?stopB
    case assignB =>
      intro l x W K hK
      gi_wp2
      exact hK
    case bodyB =>
      rintro l pre x W ⟨hJ, hBl⟩ hlt
      have hx := x.2
      obtain ⟨P0, P1⟩ := valB_pre hlt
      obtain ⟨r0, r1, q0, q1, hST⟩ := over_step (x := x.1) HD0.out HD1.out P0 P1 hx
      have HN := Lib.hid (valB_snoc pre x)
      have HST := Lib.hid hST
      have hXX : W.heap[w.heap.size + 1 + 1 + 1 + 1 + 1 + 1]? = _ := hJ.2.2.2.2.2
      clear hST P0 P1
      unfold OverI at hJ
      generalize valB pre / d = q at *
      generalize valB pre % d = r at *
      generalize x.1 = v at *
      have E1 := Lib.hid (twice_hi r0 hx r1)
      have E2 := Lib.hid (twice_lo r hx)
      have E3 := Lib.hid (twice_hi (x := 0) q0 (.inl rfl) (by omega))
      have E4 := Lib.hid (twice_low q)
      have E5 := Lib.hid (twice_odd q)
      have A1 := Lib.hid r1
      clear r1 q1 q0 r0 hx
      obtain ⟨hQ, hR, hD, h45⟩ := hJ
      have hQ_0 := hQ.c0; have hQ_1 := hQ.c1; have hR_0 := hR.c0; have hR_1 := hR.c1; have hD_0 := hD.c0; have hD_1 := hD.c1
      have hQ_2 := hQ.f0; have hQ_3 := hQ.f1; have hR_2 := hR.f0; have hR_3 := hR.f1
      gi_wp2
      clear hQ_0 hQ_1 hR_0 hR_1 hD_0 hD_1
      clear hQ_2 hQ_3 hR_2 hR_3
      rw [E1.out, E2.out, E3.out, E4.out, Int.add_zero]
      obtain ⟨W2, hW2⟩ : ∃ W2, W2 = (((W.setCell ⟨w.heap.size + 1 + 1 + 1 + 1 + 1, 0, none⟩ (.int .u64 (hi (2 * r + v)))).setCell ⟨w.heap.size + 1 + 1 + 1 + 1 + 1, 1, none⟩ (.int .u64 (lo (2 * r + v)))).setCell ⟨w.heap.size + 1 + 1 + 1 + 1, 0, none⟩ (.int .u64 (hi (2 * q)))).setCell ⟨w.heap.size + 1 + 1 + 1 + 1, 1, none⟩ (.int .u64 (lo (2 * q))) := ⟨_, rfl⟩
      rw [← hW2]
      have hJ : OverJ w b d (2 * q) (2 * r + v) W2 := by rw [hW2]; exact (OverJ.setR ⟨hQ, hR, hD, h45⟩ _).setQ _
      have hKO : KeepsOthers W W2 := by rw [hW2]; exact (((KeepsOthers.setCell _ _ _).trans (KeepsOthers.setCell _ _ _)).trans (KeepsOthers.setCell _ _ _)).trans (KeepsOthers.setCell _ _ _)
      replace hBl : Below w.heap.size w W2 := by rw [hW2]; exact below_set2 (below_set2 hBl (by omega) _ _) (by omega) _ _
      clear hW2 hQ hR hD h45
      refine ⟨trivial, (CallsIn.inRound l (callsIn_wide.2 (dless (2 * r + v) d W2))).mono ?_⟩
      rintro e w3 ⟨rfl, rfl⟩
      obtain ⟨W3, hW3⟩ : ∃ W3, W3 = (W2.alloc (.cells #[.int .u64 (hi (2 * r + v)), .int .u64 (lo (2 * r + v))] 139)).alloc (.cells #[.int .u64 (hi d), .int .u64 (lo d)] 139) := ⟨_, rfl⟩
      rw [← hW3]
      replace hJ : OverJ w b d (2 * q) (2 * r + v) W3 := by rw [hW3]; exact (hJ.alloc _).alloc _
      replace hKO : KeepsOthers W W3 := by rw [hW3]; exact (hKO.trans (KeepsOthers.alloc _ _)).trans (KeepsOthers.alloc _ _)
      replace hBl : Below w.heap.size w W3 := by rw [hW3]; exact (hBl.alloc hBl.size _).alloc (Nat.le_trans hBl.size (by simp)) _
      clear hW3
      by_cases hl : 2 * r + v < d
      · rw [decide_eq_true hl]
        gi_wp2
        have hst := HST.out
        rw [if_pos hl, ← HN.out] at hst
        refine ⟨hKO, hJ.2.2.2.2.2.trans hXX.symm, ?_, hBl⟩
        unfold OverI
        rw [hst.1, hst.2]
        exact hJ
      · rw [decide_eq_false hl]
        obtain ⟨hQ, hR, hD, h45⟩ := hJ
        have hQ_0 := hQ.c0; have hQ_1 := hQ.c1; have hR_0 := hR.c0; have hR_1 := hR.c1; have hD_0 := hD.c0; have hD_1 := hD.c1
        have hQ_2 := hQ.f0; have hQ_3 := hQ.f1; have hR_2 := hR.f0; have hR_3 := hR.f1
        have r102 := run_sub64'
        obtain ⟨l0, l1⟩ := lo_bd (2 * r + v)
        obtain ⟨l2, l3⟩ := lo_bd d
        obtain ⟨m0, m1, m2, m3⟩ := hi_pair HD1.out A1.out hl HD0.out
        have c0 : 0 ≤ bor (lo (2 * r + v)) (lo d) 0 := by rw [bor_def]; omega
        have c1 : bor (lo (2 * r + v)) (lo d) 0 ≤ 1 := by rw [bor_def]; omega
        gi_wp2
        refine ⟨trivial, ?_⟩
        gi_wp2
        refine ⟨trivial, ?_⟩
        gi_wp2
        clear r102
        rw [sub_hi _ _ m0 m1 m2 m3 (by omega), ← lo_sub, E5.out]
        have hst := HST.out
        rw [if_neg (by omega), ← HN.out] at hst
        have hJ' := (OverJ.setR ⟨hQ, hR, hD, h45⟩ (2 * r + v - d)).odd
        refine ⟨((hKO.trans (KeepsOthers.setCell _ _ _)).trans (KeepsOthers.setCell _ _ _)).trans (KeepsOthers.setCell _ _ _), hJ'.2.2.2.2.2.trans hXX.symm, ?_, (below_set2 hBl (by omega) _ _).setCell (p := ⟨_, 1, none⟩) (by simp; omega) _⟩
        unfold OverI
        rw [hst.1, hst.2]
        exact hJ'
    case doneB =>
      rintro D ys W hD' rfl ⟨⟨hQ, hR, hD, h4, h5, hX⟩, hBl⟩ hK
      rw [valB_all HB.out] at hQ hR
      generalize b / d = q at *
      generalize b % d = r at *
      have hQ_0 := hQ.c0; have hQ_1 := hQ.c1; have hR_0 := hR.c0; have hR_1 := hR.c1; have h4_0 := h4.c0; have h4_1 := h4.c1; have h5_0 := h5.c0; have h5_1 := h5.c1
      have hQ_2 := hQ.f0; have hQ_3 := hQ.f1; have hR_2 := hR.f0; have hR_3 := hR.f1; have h4_2 := h4.f0; have h4_3 := h4.f1; have h5_2 := h5.f0; have h5_3 := h5.f1
      gi_wp2
      gi_region
      gi_wp2
      obtain ⟨U, hU⟩ : ∃ U, U = ((((W.setCell ⟨w.heap.size + 1 + 1, 0, none⟩ (.int .u64 (hi q))).setCell ⟨w.heap.size + 1 + 1, 1, none⟩ (.int .u64 (lo q))).setCell ⟨w.heap.size + 1 + 1 + 1, 0, none⟩ (.int .u64 (hi r))).setCell ⟨w.heap.size + 1 + 1 + 1, 1, none⟩ (.int .u64 (lo r))).drew := ⟨_, rfl⟩
      rw [← hU]
      have k4 : Box2 U (w.heap.size + 1 + 1) (.int .u64 (hi q)) (.int .u64 (lo q)) 139 := by rw [hU]; exact ((h4.set _ _).other2 (by omega) _ _).drew
      have k5 : Box2 U (w.heap.size + 1 + 1 + 1) (.int .u64 (hi r)) (.int .u64 (lo r)) 139 := by rw [hU]; exact ((h5.other2 (by omega) _ _).set _ _).drew
      have hKU : U.heap[D]? = some (.deferred (some [])) := by
        rw [hU]
        exact (((((KeepsOthers.setCell _ _ _).trans (KeepsOthers.setCell _ _ _)).trans (KeepsOthers.setCell _ _ _)).trans (KeepsOthers.setCell _ _ _)).trans (KeepsOthers.drew _)).same D _ hK rfl
      have hBU : Ext w U := by rw [hU]; exact Ext.drew (below_set2 (below_set2 hBl (by omega) _ _) (by omega) _ _)
      clear hU
      refine ⟨by simp, .inl ⟨_, _, rfl, run_takeDeferred hKU, ?_⟩⟩
      have g4 : Box2 (U.putObj D (.deferred none)) (w.heap.size + 1 + 1) (.int .u64 (hi q)) (.int .u64 (lo q)) 139 := (grownBy_keeps_cells (grownBy_putObj' _ D (.deferred none)) (fun r e => by cases e; exact ⟨_, hKU, rfl⟩) k4 rfl).trans k4
      have g5 : Box2 (U.putObj D (.deferred none)) (w.heap.size + 1 + 1 + 1) (.int .u64 (hi r)) (.int .u64 (lo r)) 139 := (grownBy_keeps_cells (grownBy_putObj' _ D (.deferred none)) (fun r e => by cases e; exact ⟨_, hKU, rfl⟩) k5 rfl).trans k5
      have g6 := g4.c0
      have g7 := g4.c1
      have g8 := g5.c0
      have g9 := g5.c1
      refine ⟨.tuple #[.agg #[.int .u64 (hi q), .int .u64 (lo q)], .agg #[.int .u64 (hi r), .int .u64 (lo r)]], ?_, rfl, Below.trans hBU (belowK_b (w := w) (Nat.le_refl _) U D _ _ (by omega) hKU rfl rfl)⟩
      simp [results, Tryz.results95, go_sem, g6, g7, g8, g9]
    case stopB =>
      rintro D c pre W _ _ h _
      exact h.elim
end Go.Proofs.YthoedmikfpbfnaaGreat

/-
  divide.over for every divisor; Trunc and Floor for every two numbers.
-/
namespace Go.Proofs.YthoedmikfpbfnaaGreat
open Go Go.RowKit

theorem over_any {b d : Int} (hb : U128 b) (d0 : 0 < d) (d1 : d ≤ 170141183460469231731687303715884105728) : OverC b d := by
  intro w
  by_cases h : d < 18446744073709551616
  · exact over_small b d w hb d0 h
  · exact over_great b d w hb (by omega) d1
theorem magW_le {n : Int} (h : W128 n) : mag n ≤ 170141183460469231731687303715884105728 := by unfold W128 at h; unfold mag; split <;> omega
theorem trunc_any {a b : Int} (ha : W128 a) (hb : W128 b) (h0 : b ≠ 0) : Trunc3 a b := fun w =>
  dtrunc a b w ha hb h0 (over_any (mag_U ha) (mag_zero h0) (magW_le hb))
theorem overTo_all {M : Nat} (h : M ≤ 170141183460469231731687303715884105728) : OverTo M := fun b d hb d0 hd =>
  over_any (by unfold U128; omega) (by omega) (by omega)
/-- A quotient and a rest, or none: by 0, or where there is no room. -/
def z0 (b x : Int) : Int := if b = 0 then 0 else x
def er (b q : Int) : Int := if b = 0 then 3 else ter q
def RetF (w : World) (b q r : Int) (e : Ending) (w' : World) : Prop :=
  e = .returned (.tuple #[.agg #[.int .i64 (z0 b (thi q)), .int .u64 (z0 b (tlo q))], .agg #[.int .i64 (z0 b (qh q r)), .int .u64 (z0 b (ql q r))], .int .i64 (er b q)]) ∧ Ext w w'
theorem retF_q {w w' : World} {b q r : Int} {e : Ending} (h0 : b ≠ 0) (h : RetQ w q r e w') : RetF w b q r e w' := by
  unfold RetF z0 er
  simp only [if_neg h0]
  exact h
theorem retF_0 {w w' : World} {q r : Int} (x : Ext w w') : RetF w 0 q r (.returned (.tuple #[.agg #[.int .i64 0, .int .u64 0], .agg #[.int .i64 0, .int .u64 0], .int .i64 3])) w' := by
  unfold RetF z0 er
  refine ⟨?_, x⟩
  rfl
set_option maxRecDepth 100000 in
set_option maxHeartbeats 1600000 in
theorem dtrunc0 (a : Int) (w : World) (q r : Int) :
    Calls Tryz.prog 139 #[.agg #[.int .i64 (hi a), .int .u64 (lo a)], .agg #[.int .i64 0, .int .u64 0]] w (RetF w 0 q r) := by
  go_enter Tryz.func139, Tryz.ntmps139
  go_wp2_with fail
  refine bodyPost_ret (v := .tuple #[.agg #[.int .i64 0, .int .u64 0], .agg #[.int .i64 0, .int .u64 0], .int .i64 3]) (by simp [results, Tryz.results139, go_sem]) rfl (retF_0 (by repeat (first | exact Ext.refl _ | refine Ext.alloc ?_ | refine Ext.drew ?_ | refine Ext.drewN ?_ | refine Ext.set ?_ (Ext.size ?_) | refine Ext.set ?_ (Ext.size1 ?_) | refine Ext.set ?_ (Ext.size2 ?_) | refine Ext.trans ?_ (by assumption))))
set_option maxRecDepth 100000 in
set_option maxHeartbeats 1600000 in
theorem dfloor0 (a : Int) (w : World) (q r : Int) :
    Calls Tryz.prog 107 #[.agg #[.int .i64 (hi a), .int .u64 (lo a)], .agg #[.int .i64 0, .int .u64 0]] w (RetF w 0 q r) := by
  have H1 := Lib.hid dtrunc0
  go_enter Tryz.func107, Tryz.ntmps107
  go_wp2_with fail
  obtain ⟨W, hW⟩ : ∃ W, W = (((w.alloc (.cells #[.int .i64 (hi a), .int .u64 (lo a)] 42)).alloc (.cells #[.int .i64 0, .int .u64 0] 42)).alloc (.cells #[.int .i64 0, .int .u64 0] 42)).alloc (.cells #[.int .i64 0, .int .u64 0] 42) := ⟨_, rfl⟩
  rw [← hW]
  have hR : Box2 W (w.heap.size + 1 + 1) (.int .i64 0) (.int .u64 0) 42 := by rw [hW]; exact (Box2.new (by simp)).alloc _
  have hS : Box2 W (w.heap.size + 1 + 1 + 1) (.int .i64 0) (.int .u64 0) 42 := by rw [hW]; exact Box2.new (by simp)
  have xw : Ext w W := by rw [hW]; exact (Ext.refl w).alloc.alloc.alloc.alloc
  clear hW
  refine (H1.out a _ q r).mono ?_
  rintro e w1 ⟨rfl, x1⟩
  (first | replace xw := Ext.trans xw x1 | replace xw := Ext.trans (Ext.alloc xw) x1 | replace xw := Ext.trans (Ext.drew xw) x1 | replace xw := Ext.trans (Ext.alloc (Ext.drew xw)) x1); (first | replace hR := hR.ext x1 | replace hR := (hR.alloc _).ext x1 | replace hR := hR.drew.ext x1 | replace hR := (hR.drew.alloc _).ext x1); (first | replace hS := hS.ext x1 | replace hS := (hS.alloc _).ext x1 | replace hS := hS.drew.ext x1 | replace hS := (hS.drew.alloc _).ext x1)
  replace hR := (hR.alloc (.cells #[.int .i64 0, .int .u64 0] 42)).alloc (.cells #[.int .i64 0, .int .u64 0] 42)
  replace hS := (hS.alloc (.cells #[.int .i64 0, .int .u64 0] 42)).alloc (.cells #[.int .i64 0, .int .u64 0] 42)
  have g1 : z0 0 (thi q) = 0 := rfl
  have g2 : z0 0 (tlo q) = 0 := rfl
  have g3 : z0 0 (qh q r) = 0 := rfl
  have g4 : z0 0 (ql q r) = 0 := rfl
  have g5 : er 0 q = 3 := rfl
  rw [g1, g2, g3, g4, g5]
  have hR_0 := hR.c0; have hR_1 := hR.c1; have hS_0 := hS.c0; have hS_1 := hS.c1
  have hR_2 := hR.f0; have hR_3 := hR.f1; have hS_2 := hS.f0; have hS_3 := hS.f1
  go_wp2_with fail
  refine bodyPost_ret (v := .tuple #[.agg #[.int .i64 0, .int .u64 0], .agg #[.int .i64 0, .int .u64 0], .int .i64 3]) (by simp [results, Tryz.results107, go_sem, hR_0, hR_1, hS_0, hS_1]) rfl (retF_0 ?_)
  exact Ext.set (Ext.set (Ext.set (Ext.set (Ext.alloc (Ext.alloc xw)) (by omega)) (by omega)) (by omega)) (by omega)
theorem dtrunc_any (a b : Int) (w : World) (ha : W128 a) (hb : W128 b) :
    Calls Tryz.prog 139 #[.agg #[.int .i64 (hi a), .int .u64 (lo a)], .agg #[.int .i64 (hi b), .int .u64 (lo b)]] w (RetF w b (a.tdiv b) (a.tmod b)) := by
  by_cases h0 : b = 0
  · subst h0; exact dtrunc0 a w _ _
  · exact (trunc_any ha hb h0 w).mono fun e w' h => retF_q h0 h
theorem dfloor_any (a b : Int) (w : World) (ha : W128 a) (hb : W128 b) :
    Calls Tryz.prog 107 #[.agg #[.int .i64 (hi a), .int .u64 (lo a)], .agg #[.int .i64 (hi b), .int .u64 (lo b)]] w (RetF w b (a.fdiv b) (a.fmod b)) := by
  by_cases h0 : b = 0
  · subst h0; exact dfloor0 a w _ _
  · exact (dfloor a b w ha hb h0 (trunc_any ha hb h0)).mono fun e w' h => retF_q h0 h
end Go.Proofs.YthoedmikfpbfnaaGreat

/-
  The reference's Trunc of layer 3 at a divisor of 0.
-/
namespace Go.Proofs.YthoedmikfpbfnaaGreat
open Go Go.RowKit

end Go.Proofs.YthoedmikfpbfnaaGreat

/-
  Small laws for the walks: a world gets a name; how great quotients and rests are.
-/
namespace Go.Proofs.YthoedmikfpbfnaaGreat
open Go Go.RowKit

theorem wp_name {P : Program} {c : Code} {Q : Exit → Act → World → Prop} {a : Act} {w : World} (h : ∀ V, V = w → c.wp P Q a V) : c.wp P Q a w := h w rfl
end Go.Proofs.YthoedmikfpbfnaaGreat
end
section
/-
  The contracts of the first layers, as the reckoner wants them.
-/
set_option linter.unusedVariables false
namespace Go.Proofs.YthoedmikfpbfnaaGreat
open Go Go.RowKit Go.Ev

theorem fn1 {f : FuncId} {args : List Value} {v : Value} (h : ∀ w, Calls Tryz.prog f args.toArray w fun e w' => e = .returned v ∧ Ext w w') : Fn f [] args v := fun w _ => h w
theorem wcmp_fn (m n : Int) : Fn 55 [] [wv m, wv n] (.int .i64 (cmpI m n)) := fn1 (wcmp m n)
theorem wsign_fn (n : Int) : Fn 16 [] [wv n] (.int .i64 (cmpI n 0)) := fn1 (wsign n)
theorem wof_fn (n : Int) (h : I64 n) : Fn 30 [] [.int .i64 n] (wv n) := fn1 fun w => liv_of n w h
theorem wsub_yes (m n : Int) (hm : W128 m) (hn : W128 n) (h : W128 (m - n)) : Fn 92 [] [wv m, wv n] (.tuple #[wv (m - n), .int .i64 0]) := fun w _ => (wsub m n w hm hn).mono fun e w' ⟨h1, h2⟩ => ⟨by rw [h1, thi_yes h, tlo_yes h, ter_yes h], h2⟩
theorem wadd_yes (m n : Int) (hm : W128 m) (hn : W128 n) (h : W128 (m + n)) : Fn 44 [] [wv m, wv n] (.tuple #[wv (m + n), .int .i64 0]) := fun w _ => (wadd m n w hm hn).mono fun e w' ⟨h1, h2⟩ => ⟨by rw [h1, thi_yes h, tlo_yes h, ter_yes h], h2⟩
theorem wadd_any (m n : Int) (hm : W128 m) (hn : W128 n) : Fn 44 [] [wv m, wv n] (.tuple #[.agg #[.int .i64 (thi (m + n)), .int .u64 (tlo (m + n))], .int .i64 (ter (m + n))]) := fun w _ => wadd m n w hm hn
theorem wneg_yes (n : Int) (hn : W128 n) (h : W128 (-n)) : Fn 67 [] [wv n] (.tuple #[wv (-n), .int .i64 0]) := fun w _ => (wneg n w hn).mono fun e w' ⟨h1, h2⟩ => ⟨by rw [h1, thi_yes h, tlo_yes h, ter_yes h], h2⟩
theorem retF_yes {w w' : World} {b q r : Int} {e : Ending} (h0 : b ≠ 0) (h : W128 q) (k : RetF w b q r e w') : e = .returned (.tuple #[wv q, wv r, .int .i64 0]) ∧ Below w.heap.size w w' := by
  obtain ⟨h1, h2⟩ := k
  refine ⟨?_, h2⟩
  rw [h1, thi_yes h, tlo_yes h]; unfold z0 qh ql er; rw [ter_yes h]; simp only [if_neg h0, if_pos h]
theorem retF_no {w w' : World} {b q r : Int} {e : Ending} (h0 : b ≠ 0) (h : ¬ W128 q) (k : RetF w b q r e w') : e = .returned (.tuple #[.agg #[.int .i64 0, .int .u64 0], .agg #[.int .i64 0, .int .u64 0], .int .i64 2]) ∧ Below w.heap.size w w' := by
  obtain ⟨h1, h2⟩ := k
  refine ⟨?_, h2⟩
  rw [h1, thi_no h, tlo_no h]; unfold z0 qh ql er; rw [ter_no h]; simp only [if_neg h0, if_neg h]
theorem dfloor_yes (a b : Int) (ha : W128 a) (hb : W128 b) (h0 : b ≠ 0) (h : W128 (a.fdiv b)) : Fn 107 [] [wv a, wv b] (.tuple #[wv (a.fdiv b), wv (a.fmod b), .int .i64 0]) := fun w _ => (dfloor_any a b w ha hb).mono fun e w' k => retF_yes h0 h k
theorem dfloor_no (a b : Int) (ha : W128 a) (hb : W128 b) (h0 : b ≠ 0) (h : ¬ W128 (a.fdiv b)) : Fn 107 [] [wv a, wv b] (.tuple #[.agg #[.int .i64 0, .int .u64 0], .agg #[.int .i64 0, .int .u64 0], .int .i64 2]) := fun w _ => (dfloor_any a b w ha hb).mono fun e w' k => retF_no h0 h k
theorem dtrunc_yes (a b : Int) (ha : W128 a) (hb : W128 b) (h0 : b ≠ 0) (h : W128 (a.tdiv b)) : Fn 139 [] [wv a, wv b] (.tuple #[wv (a.tdiv b), wv (a.tmod b), .int .i64 0]) := fun w _ => (dtrunc_any a b w ha hb).mono fun e w' k => retF_yes h0 h k
/-! the reference's numbers -/
end Go.Proofs.YthoedmikfpbfnaaGreat
end
section
/-
  The calendar's law: days, months, years and their numbers; no program in sight.
-/
set_option linter.unusedVariables false
set_option linter.unusedSimpArgs false
namespace Go.Proofs.YthoedmikfpbfnaaGreat
def leap (y : Int) : Prop := y % 4 = 0 ∧ (y % 100 ≠ 0 ∨ y % 400 = 0)
instance (y : Int) : Decidable (leap y) := by unfold leap; infer_instance
def ylen (y : Int) : Int := if leap y then 366 else 365
def mlen (y m : Int) : Int := if m = 2 then (if leap y then 29 else 28) else if m = 4 ∨ m = 6 ∨ m = 9 ∨ m = 11 then 30 else if 1 ≤ m ∧ m ≤ 12 then 31 else 0
def jan (y : Int) : Int := 365 * y + (y + 3) / 4 - (y + 99) / 100 + (y + 399) / 400 - 719528
def mst0 (m : Int) : Int := if m ≤ 1 then 0 else if m = 2 then 31 else if m = 3 then 59 else if m = 4 then 90 else if m = 5 then 120 else if m = 6 then 151 else if m = 7 then 181 else if m = 8 then 212 else if m = 9 then 243 else if m = 10 then 273 else if m = 11 then 304 else if m = 12 then 334 else 365
def mst (y m : Int) : Int := mst0 m + (if 2 < m ∧ leap y then 1 else 0)
def dnum (y m d : Int) : Int := jan y + mst y m + d - 1
/-- A day of the calendar. -/
def dIn (y m d : Int) : Prop := 1 ≤ m ∧ m ≤ 12 ∧ 1 ≤ d ∧ d ≤ mlen y m
def dOk (y m d : Int) : Prop := dIn y m d ∧ -100000001 ≤ dnum y m d ∧ dnum y m d ≤ 100000000
theorem jan_succ (y : Int) : jan (y + 1) = jan y + ylen y := by
  unfold jan ylen
  by_cases h : leap y
  · rw [if_pos h]; unfold leap at h; omega
  · rw [if_neg h]; unfold leap at h; omega
theorem jan_mono {y z : Int} (h : y ≤ z) : jan y + 365 * (z - y) ≤ jan z := by
  unfold jan; omega
theorem months {m : Int} (h1 : 1 ≤ m) (h2 : m ≤ 12) : m = 1 ∨ m = 2 ∨ m = 3 ∨ m = 4 ∨ m = 5 ∨ m = 6 ∨ m = 7 ∨ m = 8 ∨ m = 9 ∨ m = 10 ∨ m = 11 ∨ m = 12 := by omega
theorem mst_succ {y m : Int} (h1 : 1 ≤ m) (h2 : m ≤ 12) : mst y (m + 1) = mst y m + mlen y m := by
  by_cases hl : leap y <;> rcases months h1 h2 with h | h | h | h | h | h | h | h | h | h | h | h <;> subst h <;> simp [mst, mst0, mlen, hl]
theorem mst_one (y : Int) : mst y 1 = 0 := by simp [mst, mst0]
theorem mst_end (y : Int) : mst y 13 = ylen y := by by_cases hl : leap y <;> simp [mst, mst0, ylen, hl]
theorem mlen_ge {y m : Int} (h1 : 1 ≤ m) (h2 : m ≤ 12) : 28 ≤ mlen y m ∧ mlen y m ≤ 31 := by
  by_cases hl : leap y <;> rcases months h1 h2 with h | h | h | h | h | h | h | h | h | h | h | h <;> subst h <;> simp [mlen, hl]
theorem mst_le (y : Int) {a : Int} (n : Nat) (h1 : 1 ≤ a) (h2 : a + n ≤ 13) : mst y a ≤ mst y (a + n) := by
  induction n with
  | zero => simp
  | succ n ih =>
    have i := ih (by omega)
    have s := mst_succ (y := y) (m := a + n) (by omega) (by omega)
    have g := (mlen_ge (y := y) (m := a + n) (by omega) (by omega)).1
    rw [show a + ((n + 1 : Nat) : Int) = a + (n : Int) + 1 by omega]; omega
theorem mst_mono {y m k : Int} (h1 : 1 ≤ m) (h2 : m < k) (h3 : k ≤ 13) : mst y m + mlen y m ≤ mst y k := by
  rw [← mst_succ h1 (by omega)]
  have := mst_le y (a := m + 1) (k - (m + 1)).toNat (by omega) (by omega)
  rwa [show m + 1 + (((k - (m + 1)).toNat : Nat) : Int) = k by omega] at this
theorem dnum_in {y m d : Int} (h : dIn y m d) : jan y ≤ dnum y m d ∧ dnum y m d < jan (y + 1) := by
  obtain ⟨h1, h2, h3, h4⟩ := h
  have a := mst_mono (y := y) h1 (show m < 13 by omega) (by omega)
  have b : 0 ≤ mst y m := by
    by_cases e : m = 1
    · subst e; rw [mst_one]; omega
    · have := mst_mono (y := y) (m := 1) (k := m) (by omega) (by omega) (by omega)
      have := (mlen_ge (y := y) (m := 1) (by omega) (by omega)).1
      rw [mst_one] at *; omega
  rw [jan_succ, ← mst_end]; unfold dnum; omega
theorem dOk_year {y m d : Int} (h : dOk y m d) : -271821 ≤ y ∧ y ≤ 275760 := by
  obtain ⟨h1, h2, h3⟩ := h
  obtain ⟨a, b⟩ := dnum_in h1
  have j1 : jan y ≤ 100000000 := by omega
  have j2 : -100000001 < jan (y + 1) := by omega
  unfold jan at j1 j2; omega
/-- The order of days is the order of their numbers. -/
theorem dnum_lt {y m d y' m' d' : Int} (h : dIn y m d) (h' : dIn y' m' d') (k : y < y' ∨ y = y' ∧ (m < m' ∨ m = m' ∧ d < d')) : dnum y m d < dnum y' m' d' := by
  rcases k with k | ⟨rfl, k | ⟨rfl, k⟩⟩
  · have a := (dnum_in h).2
    have b := (dnum_in h').1
    have c := jan_mono (show y + 1 ≤ y' by omega)
    omega
  · have := mst_mono (y := y) h.1 k (by have := h'.2.1; omega)
    have := h.2.2.2
    have := h'.2.2.1
    unfold dnum; omega
  · unfold dnum; omega
theorem dnum_inj {y m d y' m' d' : Int} (h : dIn y m d) (h' : dIn y' m' d') (k : dnum y m d = dnum y' m' d') : y = y' ∧ m = m' ∧ d = d' := by
  have a := fun x => dnum_lt h h' x
  have b := fun x => dnum_lt h' h x
  omega
/-- The count of the program: years begin in March. -/
theorem count_lo {y m d c r : Int} (h1 : 1 ≤ m) (h2 : m ≤ 2) (hc : y - 1 = 400 * c + r) (r0 : 0 ≤ r) (r1 : r < 400) : c * 146097 + r * 365 + r / 4 - r / 100 + (153 * (m + 9) + 2) / 5 + d - 1 - 719468 = dnum y m d := by
  have e : m = 1 ∨ m = 2 := by omega
  unfold dnum mst mst0 jan
  rcases e with rfl | rfl <;> simp <;> omega
theorem count_hi {y m d c r : Int} (h1 : 3 ≤ m) (h2 : m ≤ 12) (hc : y = 400 * c + r) (r0 : 0 ≤ r) (r1 : r < 400) : c * 146097 + r * 365 + r / 4 - r / 100 + (153 * (m - 3) + 2) / 5 + d - 1 - 719468 = dnum y m d := by
  have e : m = 3 ∨ m = 4 ∨ m = 5 ∨ m = 6 ∨ m = 7 ∨ m = 8 ∨ m = 9 ∨ m = 10 ∨ m = 11 ∨ m = 12 := by omega
  have l : (if leap y then (1 : Int) else 0) = (r + 4) / 4 - (r + 100) / 100 + (r + 400) / 400 - ((r + 3) / 4 - (r + 99) / 100 + (r + 399) / 400) := by
    by_cases h : leap y
    · rw [if_pos h]; unfold leap at h; omega
    · rw [if_neg h]; unfold leap at h; omega
  unfold dnum mst mst0 jan
  rcases e with rfl | rfl | rfl | rfl | rfl | rfl | rfl | rfl | rfl | rfl <;> simp [l] <;> omega
/-- The date of a number, as the program reckons it. -/
def fE (n : Int) : Int := (n + 719468) / 146097
def fD (n : Int) : Int := (n + 719468) % 146097
def fY (n : Int) : Int := (fD n - fD n / 1460 + fD n / 36524 - fD n / 146096) / 365
def fR (n : Int) : Int := fD n - (365 * fY n + fY n / 4 - fY n / 100)
def fM (n : Int) : Int := (5 * fR n + 2) / 153
def dY (n : Int) : Int := fY n + 400 * fE n + (if 12 < fM n + 3 then 1 else 0)
def dM (n : Int) : Int := fM n + 3 - (if 12 < fM n + 3 then 12 else 0)
def dD (n : Int) : Int := fR n - (153 * fM n + 2) / 5 + 1
theorem fD_in (n : Int) : 0 ≤ fD n ∧ fD n ≤ 146096 := by unfold fD; omega
def fG (D : Int) : Int := D - D / 1460 + D / 36524 - D / 146096
def fS (Y : Int) : Int := 365 * Y + Y / 4 - Y / 100 + Y / 400
theorem fG_step (D : Int) : fG D ≤ fG (D + 1) := by
  have a : (D + 1) / 1460 ≤ D / 1460 + 1 := by omega
  have b : D / 36524 ≤ (D + 1) / 36524 := by omega
  have c : (D + 1) / 146096 = D / 146096 ∨ (D + 1) / 146096 = D / 146096 + 1 ∧ (D + 1) / 36524 = D / 36524 + 1 := by omega
  unfold fG; omega
theorem fG_mono {D E : Int} (h : D ≤ E) : fG D ≤ fG E := by
  obtain ⟨n, rfl⟩ := Int.le.dest h
  clear h
  induction n with
  | zero => simp
  | succ n ih => rw [show D + ((n + 1 : Nat) : Int) = D + (n : Int) + 1 by omega]; exact Int.le_trans ih (fG_step _)
theorem fG_years : ∀ Y : Fin 400, 365 * (Y.val : Int) ≤ fG (fS Y.val) ∧ fG (fS (Y.val + 1) - 1) < 365 * ((Y.val : Int) + 1) := by decide +kernel
theorem fG_year {Y : Int} (h0 : 0 ≤ Y) (h1 : Y < 400) : 365 * Y ≤ fG (fS Y) ∧ fG (fS (Y + 1) - 1) < 365 * (Y + 1) := by
  have := fG_years ⟨Y.toNat, by omega⟩
  rwa [show ((Y.toNat : Nat) : Int) = Y by omega] at this
theorem fY_in {D Y : Int} (h0 : 0 ≤ D) (h1 : D ≤ 146096) (e : Y = fG D / 365) : 0 ≤ Y ∧ Y ≤ 399 ∧ fS Y ≤ D ∧ D < fS (Y + 1) := by
  have a := fG_mono h0
  have b := fG_mono h1
  rw [show fG 0 = 0 from by decide] at a
  rw [show fG 146096 = 145999 from by decide] at b
  have y0 : 0 ≤ Y := by omega
  have y1 : Y ≤ 399 := by omega
  refine ⟨y0, y1, ?_, ?_⟩
  · apply Int.not_lt.1
    intro k
    have p : 1 ≤ Y := by
      apply Int.not_lt.1; intro q
      have : Y = 0 := by omega
      subst this
      have : fS 0 = 0 := by decide
      omega
    have g := (fG_year (Y := Y - 1) (by omega) (by omega)).2
    rw [show Y - 1 + 1 = Y by omega] at g
    have := fG_mono (show D ≤ fS Y - 1 by omega)
    omega
  · apply Int.not_le.1
    intro k
    have p : Y < 399 := by
      apply Int.not_le.1; intro q
      have : Y = 399 := by omega
      subst this
      have : fS (399 + 1) = 146097 := by decide
      omega
    have g := (fG_year (Y := Y + 1) (by omega) (by omega)).1
    have := fG_mono k
    omega
theorem fM_in {R : Int} (h0 : 0 ≤ R) (h1 : R ≤ 365) : 0 ≤ (5 * R + 2) / 153 ∧ (5 * R + 2) / 153 ≤ 11 := by omega
theorem fR_in {D Y R : Int} (y0 : 0 ≤ Y) (y1 : Y ≤ 399) (hR : R = D - (365 * Y + Y / 4 - Y / 100)) (h1 : D < fS (Y + 1)) : R ≤ 365 ∧ (R = 365 → leap (Y + 1)) := by
  unfold fS at h1
  by_cases e : Y = 399
  · subst e
    refine ⟨by omega, fun _ => by decide⟩
  · have a : (Y + 1) / 400 = 0 := by omega
    have b : (Y + 1) / 4 = Y / 4 ∨ (Y + 1) / 4 = Y / 4 + 1 ∧ (Y + 1) % 4 = 0 := by omega
    have c : (Y + 1) / 100 = Y / 100 ∧ (Y + 1) % 100 ≠ 0 ∨ (Y + 1) / 100 = Y / 100 + 1 := by omega
    refine ⟨by omega, fun k => ?_⟩
    have c1 : (Y + 1) / 100 = Y / 100 := by omega
    have b1 : (Y + 1) / 4 = Y / 4 + 1 := by omega
    unfold leap; omega
/-- The date of a number has that number. -/
theorem date_ok (n : Int) : dIn (dY n) (dM n) (dD n) ∧ dnum (dY n) (dM n) (dD n) = n := by
  have hD := fD_in n
  have hn : n + 719468 = 146097 * fE n + fD n := by unfold fE fD; omega
  obtain ⟨y0, y1, y2, y3⟩ := fY_in (Y := fY n) hD.1 hD.2 (by unfold fY fG; rfl)
  have y4 : fY n / 400 = 0 := by omega
  have r0 : 0 ≤ fR n := by unfold fR fS at *; omega
  obtain ⟨r1, r2⟩ := fR_in (R := fR n) y0 y1 rfl y3
  have rd : fD n = 365 * fY n + fY n / 4 - fY n / 100 + fR n := by unfold fR; omega
  have hm := fM_in r0 r1
  have m0 : fM n = 0 ∨ fM n = 1 ∨ fM n = 2 ∨ fM n = 3 ∨ fM n = 4 ∨ fM n = 5 ∨ fM n = 6 ∨ fM n = 7 ∨ fM n = 8 ∨ fM n = 9 ∨ fM n = 10 ∨ fM n = 11 := by unfold fM; omega
  have hf : fM n = (5 * fR n + 2) / 153 := rfl
  unfold dY dM dD
  generalize fM n = M at *
  generalize fR n = R at *
  generalize fY n = Y at *
  generalize fE n = c at *
  generalize fD n = D at *
  have lp : leap (Y + 400 * c + 1) ↔ leap (Y + 1) := by unfold leap; omega
  by_cases hM : M ≤ 9
  · rw [if_neg (by omega), if_neg (by omega)]
    refine ⟨⟨by omega, by omega, by omega, ?_⟩, ?_⟩
    · rcases m0 with h | h | h | h | h | h | h | h | h | h | h | h <;> subst h <;> simp [mlen] <;> omega
    · rw [← count_hi (c := c) (r := Y) (by omega) (by omega) (by omega) y0 (by omega)]
      rw [show M + 3 - 0 - 3 = M by omega]; omega
  · rw [if_pos (by omega), if_pos (by omega)]
    refine ⟨⟨by omega, by omega, by omega, ?_⟩, ?_⟩
    · have : M = 10 ∨ M = 11 := by omega
      rcases this with h | h
      · subst h; simp [mlen]; omega
      · subst h
        by_cases k : leap (Y + 1)
        · simp [mlen, lp, k]; omega
        · have : R ≠ 365 := fun q => k (r2 q)
          simp [mlen, lp, k]; omega
    · rw [← count_lo (c := c) (r := Y) (by omega) (by omega) (by omega) y0 (by omega)]
      rw [show M + 3 - 12 + 9 = M by omega]; omega
theorem tdiv_lit {a b : Int} (h : a < 0) : a.tdiv b = -((-a) / b) := by
  have : a.tdiv b = -((-a).tdiv b) := by rw [Int.neg_tdiv, Int.neg_neg]
  rw [this, Int.tdiv_eq_ediv_of_nonneg (by omega)]
theorem tmod_lit {a b : Int} (h : a < 0) : a.tmod b = -((-a) % b) := by
  have : a.tmod b = -((-a).tmod b) := by rw [Int.neg_tmod, Int.neg_neg]
  rw [this, Int.tmod_eq_emod_of_nonneg (by omega)]
theorem tdiv_nn {a b : Int} (h : 0 ≤ a) : a.tdiv b = a / b := Int.tdiv_eq_ediv_of_nonneg h
theorem tmod_nn {a b : Int} (h : 0 ≤ a) : a.tmod b = a % b := Int.tmod_eq_emod_of_nonneg h
/-- A number's date is the only one. -/
theorem date_uniq {n y m d : Int} (h : dIn y m d) (k : dnum y m d = n) : y = dY n ∧ m = dM n ∧ d = dD n := by
  obtain ⟨a, b⟩ := date_ok n
  exact dnum_inj h a (by omega)
theorem date_of {y m d : Int} (h : dIn y m d) : dY (dnum y m d) = y ∧ dM (dnum y m d) = m ∧ dD (dnum y m d) = d := by
  obtain ⟨a, b, c⟩ := date_uniq h rfl
  exact ⟨a.symm, b.symm, c.symm⟩
theorem mlen_no {y m : Int} (h : m < 1 ∨ 12 < m) : mlen y m = 0 := by
  unfold mlen
  rw [if_neg (by omega), if_neg (by omega), if_neg (by omega)]
end Go.Proofs.YthoedmikfpbfnaaGreat
end
section
/-
  The days of the calendar: what the program and the reference answer of layer 5 (its parts that other layers use).
-/
set_option linter.unusedVariables false
set_option maxRecDepth 100000
namespace Go.Proofs.YthoedmikfpbfnaaGreat
open Go Go.RowKit Go.Ev

abbrev dv (y m d : Int) : Value := .agg #[.int .i64 y, .int .i64 m, .int .i64 d]
theorem i_eq {x x' : Int} (h : x = x') : Value.int .i64 x = .int .i64 x' := by rw [h]
theorem b_eq {x x' : Bool} (h : x = x') : Value.bool x = .bool x' := by rw [h]
theorem ii_eq {x y x' y' : Int} (h : x = x') (k : y = y') : Value.tuple #[.int .i64 x, .int .i64 y] = .tuple #[.int .i64 x', .int .i64 y'] := by rw [h, k]
theorem d_eq {y m d y' m' d' : Int} (h : y = y') (k : m = m') (l : d = d') : dv y m d = dv y' m' d' := by rw [h, k, l]
theorem db_eq {y m d y' m' d' : Int} {b : Bool} (h : y = y') (k : m = m') (l : d = d') : Value.tuple #[dv y m d, .bool b] = .tuple #[dv y' m' d', .bool b] := by rw [h, k, l]
theorem tmod0 (a b : Int) : (a.tmod b == 0) = decide (a % b = 0) := by
  rw [Bool.eq_iff_iff, beq_iff_eq, decide_eq_true_iff]
  constructor
  · intro h; exact Int.emod_eq_zero_of_dvd (Int.dvd_of_tmod_eq_zero h)
  · intro h; exact Int.tmod_eq_zero_of_dvd (Int.dvd_of_emod_eq_zero h)
theorem tmod1 (a b : Int) : (a.tmod b != 0) = !decide (a % b = 0) := by
  rw [bne, tmod0]
theorem cleap (y : Int) : Fn 166 [] [.int .i64 y] (.bool (decide (leap y))) := by
  by_cases h4 : y % 4 = 0
  · have b4 : (y.tmod 4 == 0) = true := by rw [tmod0]; simp [h4]
    by_cases h1 : y % 100 = 0
    · have b1 : (y.tmod 100 != 0) = false := by rw [tmod1]; simp [h1]
      have e : decide (leap y) = (y.tmod 400 == 0) := by rw [tmod0]; simp [leap, h4, h1]
      rw [e]
      refine fn_of Tryz.func166 rfl fun ww => ?_
      refine st_b 5 (show (y.tmod 4 == 0) = true by assumption) (by kernel_rfl) ?_
      refine st_b 9 (show (y.tmod 100 != 0) = false by assumption) (by kernel_rfl) ?_
      exact st_ret Tryz.func166 (by kernel_rfl)
    · have b1 : (y.tmod 100 != 0) = true := by rw [tmod1]; simp [h1]
      have e : decide (leap y) = true := by simp [leap, h4, h1]
      rw [e]
      refine fn_of Tryz.func166 rfl fun ww => ?_
      refine st_b 5 (show (y.tmod 4 == 0) = true by assumption) (by kernel_rfl) ?_
      refine st_b 9 (show (y.tmod 100 != 0) = true by assumption) (by kernel_rfl) ?_
      exact st_ret Tryz.func166 (by kernel_rfl)
  · have b4 : (y.tmod 4 == 0) = false := by rw [tmod0]; simp [h4]
    have e : decide (leap y) = false := by simp [leap, h4]
    rw [e]
    refine fn_of Tryz.func166 rfl fun ww => ?_
    refine st_b 5 (show (y.tmod 4 == 0) = false by assumption) (by kernel_rfl) ?_
    exact st_ret Tryz.func166 (by kernel_rfl)
theorem cleap_yes {y : Int} (h : leap y) : Fn 166 [] [.int .i64 y] (.bool true) := by have := cleap y; rwa [decide_eq_true h] at this
theorem cleap_no {y : Int} (h : ¬ leap y) : Fn 166 [] [.int .i64 y] (.bool false) := by have := cleap y; rwa [decide_eq_false h] at this
theorem cfloor400 (a : Int) (ha : -1000000000000 ≤ a) (hb : a ≤ 1000000000000) : Fn 160 [] [.int .i64 a, .int .i64 400] (.tuple #[.int .i64 (a / 400), .int .i64 (a % 400)]) := by
  by_cases h : 0 ≤ a
  · have e : a.tdiv 400 = a / 400 := tdiv_nn h
    have e2 : a.tmod 400 = a % 400 := tmod_nn h
    refine fn_of Tryz.func160 rfl fun ww => ?_
    refine st_i 10 .i64 (x' := a.tdiv 400) (Go.IntWalk.i64_in _ (by omega)) (by kernel_rfl) ?_
    refine st_b 15 (show (decide (a.tmod 400 < 0)) = false by exact decide_eq_false (by omega)) (by kernel_rfl) ?_
    exact st_retv Tryz.func160 (show Value.tuple #[vI64 (a.tdiv 400), vI64 (a.tmod 400)] = _ by (refine ii_eq ?_ ?_ <;> omega)) (by kernel_rfl)
  · have e : a.tdiv 400 = -((-a) / 400) := tdiv_lit (by omega)
    have e2 : a.tmod 400 = -((-a) % 400) := tmod_lit (by omega)
    refine fn_of Tryz.func160 rfl fun ww => ?_
    refine st_i 10 .i64 (x' := a.tdiv 400) (Go.IntWalk.i64_in _ (by omega)) (by kernel_rfl) ?_
    by_cases k15 : a.tmod 400 < 0
    · refine st_b 15 (decide_eq_true k15) (by kernel_rfl) ?_
      refine st_i 17 .i64 (x' := a.tdiv 400 - 1) (Go.IntWalk.i64_in _ (by omega)) (by kernel_rfl) ?_
      refine st_i 20 .i64 (x' := a.tmod 400 + 400) (Go.IntWalk.i64_in _ (by omega)) (by kernel_rfl) ?_
      exact st_retv Tryz.func160 (show Value.tuple #[vI64 (a.tdiv 400 - 1), vI64 (a.tmod 400 + 400)] = _ by (refine ii_eq ?_ ?_ <;> omega)) (by kernel_rfl)
    · refine st_b 15 (decide_eq_false k15) (by kernel_rfl) ?_
      exact st_retv Tryz.func160 (show Value.tuple #[vI64 (a.tdiv 400), vI64 (a.tmod 400)] = _ by (refine ii_eq ?_ ?_ <;> omega)) (by kernel_rfl)
theorem cfloor146097 (a : Int) (ha : -1000000000000 ≤ a) (hb : a ≤ 1000000000000) : Fn 160 [] [.int .i64 a, .int .i64 146097] (.tuple #[.int .i64 (a / 146097), .int .i64 (a % 146097)]) := by
  by_cases h : 0 ≤ a
  · have e : a.tdiv 146097 = a / 146097 := tdiv_nn h
    have e2 : a.tmod 146097 = a % 146097 := tmod_nn h
    refine fn_of Tryz.func160 rfl fun ww => ?_
    refine st_i 10 .i64 (x' := a.tdiv 146097) (Go.IntWalk.i64_in _ (by omega)) (by kernel_rfl) ?_
    refine st_b 15 (show (decide (a.tmod 146097 < 0)) = false by exact decide_eq_false (by omega)) (by kernel_rfl) ?_
    exact st_retv Tryz.func160 (show Value.tuple #[vI64 (a.tdiv 146097), vI64 (a.tmod 146097)] = _ by (refine ii_eq ?_ ?_ <;> omega)) (by kernel_rfl)
  · have e : a.tdiv 146097 = -((-a) / 146097) := tdiv_lit (by omega)
    have e2 : a.tmod 146097 = -((-a) % 146097) := tmod_lit (by omega)
    refine fn_of Tryz.func160 rfl fun ww => ?_
    refine st_i 10 .i64 (x' := a.tdiv 146097) (Go.IntWalk.i64_in _ (by omega)) (by kernel_rfl) ?_
    by_cases k15 : a.tmod 146097 < 0
    · refine st_b 15 (decide_eq_true k15) (by kernel_rfl) ?_
      refine st_i 17 .i64 (x' := a.tdiv 146097 - 1) (Go.IntWalk.i64_in _ (by omega)) (by kernel_rfl) ?_
      refine st_i 20 .i64 (x' := a.tmod 146097 + 146097) (Go.IntWalk.i64_in _ (by omega)) (by kernel_rfl) ?_
      exact st_retv Tryz.func160 (show Value.tuple #[vI64 (a.tdiv 146097 - 1), vI64 (a.tmod 146097 + 146097)] = _ by (refine ii_eq ?_ ?_ <;> omega)) (by kernel_rfl)
    · refine st_b 15 (decide_eq_false k15) (by kernel_rfl) ?_
      exact st_retv Tryz.func160 (show Value.tuple #[vI64 (a.tdiv 146097), vI64 (a.tmod 146097)] = _ by (refine ii_eq ?_ ?_ <;> omega)) (by kernel_rfl)
theorem cmonth (y m : Int) : Fn 145 [] [.int .i64 y, .int .i64 m] (.int .i64 (mlen y m)) := by
  by_cases h1 : 1 ≤ m ∧ m ≤ 12
  · rcases months h1.1 h1.2 with h | h | h | h | h | h | h | h | h | h | h | h <;> subst h
    · rw [show mlen y 1 = 31 from rfl]
      refine fn_of Tryz.func145 rfl fun ww => ?_
      exact st_ret Tryz.func145 (by kernel_rfl)
    · by_cases hl : leap y
      · rw [show mlen y 2 = 29 by simp [mlen, hl]]
        refine fn_of Tryz.func145 rfl fun ww => ?_
        refine st_fn ent166 (cleap_yes (by assumption)) sub0 (by kernel_rfl) ?_
        exact st_ret Tryz.func145 (by kernel_rfl)
      · rw [show mlen y 2 = 28 by simp [mlen, hl]]
        refine fn_of Tryz.func145 rfl fun ww => ?_
        refine st_fn ent166 (cleap_no (by assumption)) sub0 (by kernel_rfl) ?_
        exact st_ret Tryz.func145 (by kernel_rfl)
    · rw [show mlen y 3 = 31 from rfl]
      refine fn_of Tryz.func145 rfl fun ww => ?_
      exact st_ret Tryz.func145 (by kernel_rfl)
    · rw [show mlen y 4 = 30 from rfl]
      refine fn_of Tryz.func145 rfl fun ww => ?_
      exact st_ret Tryz.func145 (by kernel_rfl)
    · rw [show mlen y 5 = 31 from rfl]
      refine fn_of Tryz.func145 rfl fun ww => ?_
      exact st_ret Tryz.func145 (by kernel_rfl)
    · rw [show mlen y 6 = 30 from rfl]
      refine fn_of Tryz.func145 rfl fun ww => ?_
      exact st_ret Tryz.func145 (by kernel_rfl)
    · rw [show mlen y 7 = 31 from rfl]
      refine fn_of Tryz.func145 rfl fun ww => ?_
      exact st_ret Tryz.func145 (by kernel_rfl)
    · rw [show mlen y 8 = 31 from rfl]
      refine fn_of Tryz.func145 rfl fun ww => ?_
      exact st_ret Tryz.func145 (by kernel_rfl)
    · rw [show mlen y 9 = 30 from rfl]
      refine fn_of Tryz.func145 rfl fun ww => ?_
      exact st_ret Tryz.func145 (by kernel_rfl)
    · rw [show mlen y 10 = 31 from rfl]
      refine fn_of Tryz.func145 rfl fun ww => ?_
      exact st_ret Tryz.func145 (by kernel_rfl)
    · rw [show mlen y 11 = 30 from rfl]
      refine fn_of Tryz.func145 rfl fun ww => ?_
      exact st_ret Tryz.func145 (by kernel_rfl)
    · rw [show mlen y 12 = 31 from rfl]
      refine fn_of Tryz.func145 rfl fun ww => ?_
      exact st_ret Tryz.func145 (by kernel_rfl)
  · rw [mlen_no (by omega)]
    by_cases h2 : m < 1
    · refine fn_of Tryz.func145 rfl fun ww => ?_
      refine st_b 9 (show (decide (m < 1)) = true by exact decide_eq_true (by omega)) (by kernel_rfl) ?_
      exact st_ret Tryz.func145 (by kernel_rfl)
    · have h3 : 12 < m := by omega
      refine fn_of Tryz.func145 rfl fun ww => ?_
      refine st_b 9 (show (decide (m < 1)) = false by exact decide_eq_false (by omega)) (by kernel_rfl) ?_
      refine st_b 12 (show (decide (m > 12)) = true by exact decide_eq_true (by omega)) (by kernel_rfl) ?_
      exact st_ret Tryz.func145 (by kernel_rfl)
theorem ccount (y m d : Int) (y0 : -300000 ≤ y) (y1 : y ≤ 300000) (m1 : 1 ≤ m) (m2 : m ≤ 12) (d0 : -1000 ≤ d) (d1 : d ≤ 1000) : Fn 159 [] [dv y m d] (.int .i64 (dnum y m d)) := by
  by_cases hm : m ≤ 2
  · have e := count_lo (y := y) (m := m) (d := d) (c := (y - 1) / 400) (r := (y - 1) % 400) m1 hm (by omega) (by omega) (by omega)
    have t4 : ((y - 1) % 400).tdiv 4 = ((y - 1) % 400) / 4 := tdiv_nn (by omega)
    have t1 : ((y - 1) % 400).tdiv 100 = ((y - 1) % 400) / 100 := tdiv_nn (by omega)
    have t5 : (153 * (m - 3 + 12) + 2).tdiv 5 = (153 * (m + 9) + 2) / 5 := by rw [tdiv_nn (by omega)]; congr 2; omega
    refine fn_of Tryz.func159 rfl fun ww => ?_
    refine st_i 10 .i64 (x' := m - 3) (Go.IntWalk.i64_in _ (by omega)) (by kernel_rfl) ?_
    refine st_b 12 (show (decide (m - 3 < 0)) = true by exact decide_eq_true (by omega)) (by kernel_rfl) ?_
    refine st_i 14 .i64 (x' := y - 1) (Go.IntWalk.i64_in _ (by omega)) (by kernel_rfl) ?_
    refine st_i 16 .i64 (x' := m - 3 + 12) (Go.IntWalk.i64_in _ (by omega)) (by kernel_rfl) ?_
    refine st_fn ent160 (cfloor400 (y - 1) (by omega) (by omega)) sub0 (by kernel_rfl) ?_
    refine st_i 23 .i64 (x' := (y - 1) / 400 * 146097) (Go.IntWalk.i64_in _ (by omega)) (by kernel_rfl) ?_
    refine st_i 25 .i64 (x' := (y - 1) % 400 * 365) (Go.IntWalk.i64_in _ (by omega)) (by kernel_rfl) ?_
    refine st_i 26 .i64 (x' := (y - 1) / 400 * 146097 + (y - 1) % 400 * 365) (Go.IntWalk.i64_in _ (by omega)) (by kernel_rfl) ?_
    refine st_i 28 .i64 (x' := ((y - 1) % 400).tdiv 4) (Go.IntWalk.i64_in _ (by omega)) (by kernel_rfl) ?_
    refine st_i 29 .i64 (x' := (y - 1) / 400 * 146097 + (y - 1) % 400 * 365 + ((y - 1) % 400).tdiv 4) (Go.IntWalk.i64_in _ (by omega)) (by kernel_rfl) ?_
    refine st_i 31 .i64 (x' := ((y - 1) % 400).tdiv 100) (Go.IntWalk.i64_in _ (by omega)) (by kernel_rfl) ?_
    refine st_i 32 .i64 (x' := (y - 1) / 400 * 146097 + (y - 1) % 400 * 365 + ((y - 1) % 400).tdiv 4 - ((y - 1) % 400).tdiv 100) (Go.IntWalk.i64_in _ (by omega)) (by kernel_rfl) ?_
    refine st_i 34 .i64 (x' := 153 * (m - 3 + 12)) (Go.IntWalk.i64_in _ (by omega)) (by kernel_rfl) ?_
    refine st_i 35 .i64 (x' := 153 * (m - 3 + 12) + 2) (Go.IntWalk.i64_in _ (by omega)) (by kernel_rfl) ?_
    refine st_i 36 .i64 (x' := (153 * (m - 3 + 12) + 2).tdiv 5) (Go.IntWalk.i64_in _ (by omega)) (by kernel_rfl) ?_
    refine st_i 37 .i64 (x' := (y - 1) / 400 * 146097 + (y - 1) % 400 * 365 + ((y - 1) % 400).tdiv 4 - ((y - 1) % 400).tdiv 100 + (153 * (m - 3 + 12) + 2).tdiv 5) (Go.IntWalk.i64_in _ (by omega)) (by kernel_rfl) ?_
    refine st_i 40 .i64 (x' := (y - 1) / 400 * 146097 + (y - 1) % 400 * 365 + ((y - 1) % 400).tdiv 4 - ((y - 1) % 400).tdiv 100 + (153 * (m - 3 + 12) + 2).tdiv 5 + d) (Go.IntWalk.i64_in _ (by omega)) (by kernel_rfl) ?_
    refine st_i 41 .i64 (x' := (y - 1) / 400 * 146097 + (y - 1) % 400 * 365 + ((y - 1) % 400).tdiv 4 - ((y - 1) % 400).tdiv 100 + (153 * (m - 3 + 12) + 2).tdiv 5 + d - 1) (Go.IntWalk.i64_in _ (by omega)) (by kernel_rfl) ?_
    refine st_i 42 .i64 (x' := (y - 1) / 400 * 146097 + (y - 1) % 400 * 365 + ((y - 1) % 400).tdiv 4 - ((y - 1) % 400).tdiv 100 + (153 * (m - 3 + 12) + 2).tdiv 5 + d - 1 - 719468) (Go.IntWalk.i64_in _ (by omega)) (by kernel_rfl) ?_
    exact st_retv Tryz.func159 (show vI64 ((y - 1) / 400 * 146097 + (y - 1) % 400 * 365 + ((y - 1) % 400).tdiv 4 - ((y - 1) % 400).tdiv 100 + (153 * (m - 3 + 12) + 2).tdiv 5 + d - 1 - 719468) = _ by (refine i_eq ?_; omega)) (by kernel_rfl)
  · have e := count_hi (y := y) (m := m) (d := d) (c := y / 400) (r := y % 400) (by omega) m2 (by omega) (by omega) (by omega)
    have t4 : (y % 400).tdiv 4 = (y % 400) / 4 := tdiv_nn (by omega)
    have t1 : (y % 400).tdiv 100 = (y % 400) / 100 := tdiv_nn (by omega)
    have t5 : (153 * (m - 3) + 2).tdiv 5 = (153 * (m - 3) + 2) / 5 := tdiv_nn (by omega)
    refine fn_of Tryz.func159 rfl fun ww => ?_
    refine st_i 10 .i64 (x' := m - 3) (Go.IntWalk.i64_in _ (by omega)) (by kernel_rfl) ?_
    refine st_b 12 (show (decide (m - 3 < 0)) = false by exact decide_eq_false (by omega)) (by kernel_rfl) ?_
    refine st_fn ent160 (cfloor400 (y) (by omega) (by omega)) sub0 (by kernel_rfl) ?_
    refine st_i 23 .i64 (x' := y / 400 * 146097) (Go.IntWalk.i64_in _ (by omega)) (by kernel_rfl) ?_
    refine st_i 25 .i64 (x' := y % 400 * 365) (Go.IntWalk.i64_in _ (by omega)) (by kernel_rfl) ?_
    refine st_i 26 .i64 (x' := y / 400 * 146097 + y % 400 * 365) (Go.IntWalk.i64_in _ (by omega)) (by kernel_rfl) ?_
    refine st_i 28 .i64 (x' := (y % 400).tdiv 4) (Go.IntWalk.i64_in _ (by omega)) (by kernel_rfl) ?_
    refine st_i 29 .i64 (x' := y / 400 * 146097 + y % 400 * 365 + (y % 400).tdiv 4) (Go.IntWalk.i64_in _ (by omega)) (by kernel_rfl) ?_
    refine st_i 31 .i64 (x' := (y % 400).tdiv 100) (Go.IntWalk.i64_in _ (by omega)) (by kernel_rfl) ?_
    refine st_i 32 .i64 (x' := y / 400 * 146097 + y % 400 * 365 + (y % 400).tdiv 4 - (y % 400).tdiv 100) (Go.IntWalk.i64_in _ (by omega)) (by kernel_rfl) ?_
    refine st_i 34 .i64 (x' := 153 * (m - 3)) (Go.IntWalk.i64_in _ (by omega)) (by kernel_rfl) ?_
    refine st_i 35 .i64 (x' := 153 * (m - 3) + 2) (Go.IntWalk.i64_in _ (by omega)) (by kernel_rfl) ?_
    refine st_i 36 .i64 (x' := (153 * (m - 3) + 2).tdiv 5) (Go.IntWalk.i64_in _ (by omega)) (by kernel_rfl) ?_
    refine st_i 37 .i64 (x' := y / 400 * 146097 + y % 400 * 365 + (y % 400).tdiv 4 - (y % 400).tdiv 100 + (153 * (m - 3) + 2).tdiv 5) (Go.IntWalk.i64_in _ (by omega)) (by kernel_rfl) ?_
    refine st_i 40 .i64 (x' := y / 400 * 146097 + y % 400 * 365 + (y % 400).tdiv 4 - (y % 400).tdiv 100 + (153 * (m - 3) + 2).tdiv 5 + d) (Go.IntWalk.i64_in _ (by omega)) (by kernel_rfl) ?_
    refine st_i 41 .i64 (x' := y / 400 * 146097 + y % 400 * 365 + (y % 400).tdiv 4 - (y % 400).tdiv 100 + (153 * (m - 3) + 2).tdiv 5 + d - 1) (Go.IntWalk.i64_in _ (by omega)) (by kernel_rfl) ?_
    refine st_i 42 .i64 (x' := y / 400 * 146097 + y % 400 * 365 + (y % 400).tdiv 4 - (y % 400).tdiv 100 + (153 * (m - 3) + 2).tdiv 5 + d - 1 - 719468) (Go.IntWalk.i64_in _ (by omega)) (by kernel_rfl) ?_
    exact st_retv Tryz.func159 (show vI64 (y / 400 * 146097 + y % 400 * 365 + (y % 400).tdiv 4 - (y % 400).tdiv 100 + (153 * (m - 3) + 2).tdiv 5 + d - 1 - 719468) = _ by (refine i_eq ?_; omega)) (by kernel_rfl)
end Go.Proofs.YthoedmikfpbfnaaGreat
end
section
/-
  The reference's Common of layer 3.
-/
set_option linter.unusedSimpArgs false
set_option linter.unusedVariables false
namespace Go.Proofs.YthoedmikfpbfnaaGreat
open Go Go.RowKit

end Go.Proofs.YthoedmikfpbfnaaGreat

/-
  The reference's Cut of layer 3.
-/
set_option linter.unusedSimpArgs false
set_option linter.unusedVariables false
namespace Go.Proofs.YthoedmikfpbfnaaGreat
open Go Go.RowKit

end Go.Proofs.YthoedmikfpbfnaaGreat

/-
  The reference's Trunc of layer 3.
-/
set_option linter.unusedSimpArgs false
set_option linter.unusedVariables false
namespace Go.Proofs.YthoedmikfpbfnaaGreat
open Go Go.RowKit

end Go.Proofs.YthoedmikfpbfnaaGreat

/-
  The reference's Lowest of layer 3: a fraction in its lowest terms.
-/
set_option linter.unusedSimpArgs false
set_option linter.unusedVariables false
namespace Go.Proofs.YthoedmikfpbfnaaGreat
open Go Go.RowKit

/-- A fraction in its lowest terms: above, below. -/
def frP (n d : Int) : Int := wsg (!(decide (n < 0) == decide (d < 0))) ((n.natAbs / Nat.gcd n.natAbs d.natAbs : Nat) : Int)
def frQ (n d : Int) : Int := ((d.natAbs / Nat.gcd n.natAbs d.natAbs : Nat) : Int)
theorem gcd_pos {a b : Int} (h : b ≠ 0) : 0 < Nat.gcd a.natAbs b.natAbs := Nat.gcd_pos_of_pos_right _ (by omega)
end Go.Proofs.YthoedmikfpbfnaaGreat
end
section
/-
  A block known whole, of however many cells: what it holds, over calls, makings and stores.
-/
namespace Go.Proofs.YthoedmikfpbfnaaGreat
open Go Go.RowKit

def Bx (w : World) (k : Nat) (cs : Array Value) (t : TypeId) : Prop := w.heap[k]? = some (.cells cs t (0, 0))
theorem Bx.kind {w : World} {k : Nat} {cs : Array Value} {t : TypeId} (h : Bx w k cs t) : Kind w k t := ⟨_, _, h⟩
theorem Bx.below {w w' : World} {k : Nat} {cs : Array Value} {t : TypeId} (h : Bx w k cs t) (hb : Below w.heap.size w w') : Bx w' k cs t := (hb.block k h.kind.lt).trans h
theorem Bx.ext {w w' : World} {k : Nat} {cs : Array Value} {t : TypeId} (h : Bx w k cs t) (hb : Ext w w') : Bx w' k cs t := h.below hb
theorem Bx.drew {w : World} {k : Nat} {cs : Array Value} {t : TypeId} (h : Bx w k cs t) : Bx w.drew k cs t := h
theorem Bx.drewN {w : World} {k : Nat} {cs : Array Value} {t : TypeId} (h : Bx w k cs t) (n : Nat) : Bx (w.drewN n) k cs t := h
theorem Bx.alloc {w : World} {k : Nat} {cs : Array Value} {t : TypeId} (h : Bx w k cs t) (o : Obj) : Bx (w.alloc o) k cs t := h.below (below1 w o)
theorem Bx.new {w : World} {k : Nat} {cs : Array Value} {t : TypeId} (h : k = w.heap.size) : Bx (w.alloc (.cells cs t)) k cs t := by subst h; exact heap_alloc_new w _
theorem Bx.c {w : World} {k : Nat} {cs : Array Value} {t : TypeId} (h : Bx w k cs t) (i : Nat) {v : Value} (e : cs[i]? = some v) : w.cell? ⟨k, i, none⟩ = some v := by
  unfold Bx at h; simp [World.cell?, h, e]
theorem Bx.f {w : World} {k : Nat} {cs : Array Value} {t : TypeId} (h : Bx w k cs t) (i : Nat) : w.frozen? ⟨k, i, none⟩ = false := by unfold Bx at h; simp [World.frozen?, h]
theorem Bx.setc {w : World} {k : Nat} {cs : Array Value} {t : TypeId} (h : Bx w k cs t) (i : Nat) (u : Value) {cs' : Array Value} (e : cs.setIfInBounds i u = cs') : Bx (w.setCell ⟨k, i, none⟩ u) k cs' t := by
  have h1 := Joins.block_setCell (i := i) h u
  rw [← e]; exact h1
theorem Bx.other {w : World} {k : Nat} {cs : Array Value} {t : TypeId} (h : Bx w k cs t) {b : Nat} (hne : k ≠ b) (o : Nat) (x : Value) : Bx (w.setCell ⟨b, o, none⟩ x) k cs t :=
  (heap_setCell_other w ⟨b, o, none⟩ k x hne).trans h
end Go.Proofs.YthoedmikfpbfnaaGreat
end
