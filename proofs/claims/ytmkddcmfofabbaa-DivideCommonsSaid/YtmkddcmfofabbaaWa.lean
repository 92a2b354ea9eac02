/-
  Wide numbers: how they lie in memory; wide.Of, Int, Cmp, Sign, Add, Sub, Neg.
-/
import Derived.Test.YtmkddcmfofabbaaExt
namespace Go.Proofs.Ytmkddcmfofabbaa
open Go Go.RowKit

/-- The two halves of a wide number. -/
def hi (n : Int) : Int := n / 18446744073709551616
def lo (n : Int) : Int := n % 18446744073709551616
/-- Has room in 128 bits. -/
def W128 (n : Int) : Prop := -170141183460469231731687303715884105728 ≤ n ∧ n < 170141183460469231731687303715884105728
theorem lo_bd (n : Int) : 0 ≤ lo n ∧ lo n < 18446744073709551616 := by unfold lo; omega
theorem hi_bd {n : Int} (h : W128 n) : -9223372036854775808 ≤ hi n ∧ hi n ≤ 9223372036854775807 := by unfold hi; unfold W128 at h; omega
theorem hi_lo (n : Int) : n = hi n * 18446744073709551616 + lo n := by unfold hi lo; omega
theorem hi_neg (n : Int) : hi n < 0 ↔ n < 0 := by unfold hi; omega
theorem of_hi_lo (h l : Int) (h0 : 0 ≤ l) (h1 : l < 18446744073709551616) : hi (h * 18446744073709551616 + l) = h ∧ lo (h * 18446744073709551616 + l) = l := by unfold hi lo; omega
theorem wide_eq {a b : Int} : (hi a = hi b ∧ lo a = lo b) ↔ a = b := by unfold hi lo; omega

theorem run_add64' (x y c : Int) (hx : 0 ≤ x) (hy : 0 ≤ y) (hc0 : 0 ≤ c) (hc : c ≤ 1) (w : World) :
    (callFunc 98 #[.int .u64 x, .int .u64 y, .int .u64 c]).run Try.prog w =
      .ok (.value (.tuple #[.int .u64 ((x + y + c) % 18446744073709551616), .int .u64 ((x + y + c) / 18446744073709551616)])) w := by
  rw [run_callFunc_extern Try.func98 (by kernel_rfl) (by kernel_rfl) (by kernel_rfl) (e := add64Entry) (by kernel_rfl), run_add64 x y c hx hy hc0 hc]
  rfl

/-- What is borrowed. -/
def bor (x y b : Int) : Int := -((x - y - b) / 18446744073709551616)
theorem bor_def (x y b : Int) : bor x y b = -((x - y - b) / 18446744073709551616) := rfl
def sub64Entry' : Array Value → Sem Value := fun args => do
  let (x, y, b) ← Extern.MathBitsCarry.three "Sub64" args
  pure (Extern.MathBitsCarry.pair ((x + Extern.MathBitsCarry.m64 - y - b) % Extern.MathBitsCarry.m64) (if x < y + b then 1 else 0))
theorem run_sub64' (x y b : Int) (hx : 0 ≤ x) (hx1 : x < 18446744073709551616) (hy : 0 ≤ y) (hy1 : y < 18446744073709551616) (hb0 : 0 ≤ b) (hb : b ≤ 1) (w : World) :
    (callFunc 102 #[.int .u64 x, .int .u64 y, .int .u64 b]).run Try.prog w =
      .ok (.value (.tuple #[.int .u64 ((x - y - b) % 18446744073709551616), .int .u64 (bor x y b)])) w := by
  rw [run_callFunc_extern Try.func102 (by kernel_rfl) (by kernel_rfl) (by kernel_rfl) (e := sub64Entry') (by kernel_rfl)]
  obtain ⟨X, rfl⟩ := Int.eq_ofNat_of_zero_le hx
  obtain ⟨Y, rfl⟩ := Int.eq_ofNat_of_zero_le hy
  have key : ∀ k : Nat, k ≤ 1 → (sub64Entry' #[.int .u64 (X : Int), .int .u64 (Y : Int), .int .u64 (k : Int)]).run Try.prog w =
      .ok (Extern.MathBitsCarry.pair ((X + Extern.MathBitsCarry.m64 - Y - k) % Extern.MathBitsCarry.m64) (if X < Y + k then 1 else 0)) w := by
    intro k hk
    have : k = 0 ∨ k = 1 := by omega
    rcases this with rfl | rfl <;> rfl
  obtain ⟨c, rfl⟩ := Int.eq_ofNat_of_zero_le hb0
  rw [key c (by omega)]
  simp only [Extern.MathBitsCarry.pair, Extern.MathBitsCarry.m64, Result.andThen]
  have e1 : ((((X + 2 ^ 64 - Y - c) % 2 ^ 64 : Nat)) : Int) = ((X : Int) - Y - c) % 18446744073709551616 := by omega
  have e2 : (((if X < Y + c then 1 else 0 : Nat)) : Int) = bor (X : Int) Y c := by rw [bor_def]; split <;> omega
  show Result.ok (Next.value (.tuple #[.int .u64 (((X + 2 ^ 64 - Y - c) % 2 ^ 64 : Nat) : Int), .int .u64 ((if X < Y + c then 1 else 0 : Nat) : Int)])) w = _
  rw [e1, e2]

theorem u64_nonneg (x : Int) : 0 ≤ IntKind.u64.wrap x := by rw [IntKind.wrap_u64]; omega
theorem u64_lt (x : Int) : IntKind.u64.wrap x < 18446744073709551616 := by rw [IntKind.wrap_u64]; omega
theorem u64_eq (x : Int) : IntKind.u64.wrap x = x % 18446744073709551616 := IntKind.wrap_u64 x
theorem ret_agg2 {a b c d : Int} (h : a = c) (h' : b = d) : Ending.returned (.agg #[.int .i64 a, .int .u64 b]) = .returned (.agg #[.int .i64 c, .int .u64 d]) := by rw [h, h']

theorem of_pure (n : Int) (w : World) (h0 : -9223372036854775808 ≤ n) (h1 : n ≤ 9223372036854775807) :
    Calls Try.prog 32 #[.int .i64 n] w fun e w' => e = .returned (.agg #[.int .i64 (hi n), .int .u64 (lo n)]) ∧ Ext w w' := by
  go_enter Try.func32, Try.ntmps32
  go_wp2
  have e1 : n / 9223372036854775808 = hi n := by unfold hi; omega
  have e2 : IntKind.u64.wrap n = lo n := u64_eq n
  rw [e1, e2]
  refine bodyPost_ret (v := .agg #[.int .i64 (hi n), .int .u64 (lo n)]) (by simp [results, Try.results32, go_sem]) rfl ⟨rfl, (Ext.refl w).alloc⟩

theorem hi_add (m n : Int) : hi (m + n) = hi m + hi n + (lo m + lo n) / 18446744073709551616 := by unfold hi lo; omega
theorem lo_add (m n : Int) : lo (m + n) = (lo m + lo n) % 18446744073709551616 := by unfold lo; omega
theorem hi_sub (m n : Int) : hi (m - n) = hi m - hi n + (lo m - lo n) / 18446744073709551616 := by unfold hi lo; omega
theorem lo_sub (m n : Int) : lo (m - n) = (lo m - lo n) % 18446744073709551616 := by unfold lo; omega
theorem W128_iff (n : Int) : W128 n ↔ -9223372036854775808 ≤ hi n ∧ hi n ≤ 9223372036854775807 := by unfold W128 hi; omega
instance (n : Int) : Decidable (W128 n) := by unfold W128; infer_instance
/-- A wide number, or none. -/
def thi (n : Int) : Int := if W128 n then hi n else 0
def tlo (n : Int) : Int := if W128 n then lo n else 0
def ter (n : Int) : Int := if W128 n then 0 else 2
theorem thi_yes {n : Int} (h : W128 n) : thi n = hi n := if_pos h
theorem tlo_yes {n : Int} (h : W128 n) : tlo n = lo n := if_pos h
theorem ter_yes {n : Int} (h : W128 n) : ter n = 0 := if_pos h
theorem thi_no {n : Int} (h : ¬ W128 n) : thi n = 0 := if_neg h
theorem tlo_no {n : Int} (h : ¬ W128 n) : tlo n = 0 := if_neg h
theorem ter_no {n : Int} (h : ¬ W128 n) : ter n = 2 := if_neg h
/-- A call that returns the wide number n and 0, or none and 2. -/
def RetT (w : World) (n : Int) (e : Ending) (w' : World) : Prop := e = .returned (.tuple #[.agg #[.int .i64 (thi n), .int .u64 (tlo n)], .int .i64 (ter n)]) ∧ Ext w w'
theorem retT_yes {w w' : World} {n a b : Int} (h : W128 n) (ha : a = hi n) (hb : b = lo n) (hx : Ext w w') : RetT w n (.returned (.tuple #[.agg #[.int .i64 a, .int .u64 b], .int .i64 0])) w' :=
  ⟨by rw [thi_yes h, tlo_yes h, ter_yes h, ha, hb], hx⟩
theorem retT_no {w w' : World} {n : Int} (h : ¬ W128 n) (hx : Ext w w') : RetT w n (.returned (.tuple #[.agg #[.int .i64 0, .int .u64 0], .int .i64 2])) w' :=
  ⟨by rw [thi_no h, tlo_no h, ter_no h], hx⟩

/-- The upper half of a sum as the code comes to it. -/
def hsum (a b c : Int) : Int := wrap64 (a + b + c)
theorem hsum_eq (a b c : Int) : wrap64 ((IntKind.u64.wrap a + IntKind.u64.wrap b + c) % 18446744073709551616) = hsum a b c := by unfold hsum wrap64; rw [u64_eq, u64_eq]; omega
theorem hsum_def (a b c : Int) : hsum a b c = (a + b + c + 9223372036854775808) % 18446744073709551616 - 9223372036854775808 := by unfold hsum wrap64; rfl

set_option maxRecDepth 100000 in
set_option maxHeartbeats 1600000 in
theorem wadd (m n : Int) (w : World) (hm : W128 m) (hn : W128 n) :
    Calls Try.prog 45 #[.agg #[.int .i64 (hi m), .int .u64 (lo m)], .agg #[.int .i64 (hi n), .int .u64 (lo n)]] w (RetT w (m + n)) := by
  have r98 := run_add64'
  obtain ⟨a0, a1⟩ := lo_bd m
  obtain ⟨b0, b1⟩ := lo_bd n
  obtain ⟨a2, a3⟩ := hi_bd hm
  obtain ⟨b2, b3⟩ := hi_bd hn
  have u1 := u64_nonneg (hi m)
  have u2 := u64_nonneg (hi n)
  have c0 : 0 ≤ (lo m + lo n) / 18446744073709551616 := by omega
  have c1 : (lo m + lo n) / 18446744073709551616 ≤ 1 := by omega
  go_enter Try.func45, Try.ntmps45
  go_wp2
  all_goals
    have hi1 := hi_add m n
    have lo1 := lo_add m n
    have W1 := W128_iff (m + n)
    have hd := hsum_def (hi m) (hi n) ((lo m + lo n) / 18446744073709551616)
    simp only [hsum_eq] at *
    first
    | (refine bodyPost_ret (v := .tuple #[.agg #[.int .i64 (hsum (hi m) (hi n) ((lo m + lo n) / 18446744073709551616)), .int .u64 ((lo m + lo n) % 18446744073709551616)], .int .i64 0]) (by simp [results, Try.results45, go_sem]) rfl
        (retT_yes (W1.2 (by grind)) (by grind) lo1.symm (by repeat (first | exact Ext.refl _ | refine Ext.alloc ?_ | refine Ext.drew ?_ | refine Ext.drewN ?_ | refine Ext.set ?_ (Ext.size ?_) | refine Ext.set ?_ (Ext.size1 ?_) | refine Ext.set ?_ (Ext.size2 ?_) | refine Ext.trans ?_ (by assumption)))))
    | (refine bodyPost_ret (v := .tuple #[.agg #[.int .i64 0, .int .u64 0], .int .i64 2]) (by simp [results, Try.results45, go_sem]) rfl
        (retT_no (fun h => by have := W1.1 h; grind) (by repeat (first | exact Ext.refl _ | refine Ext.alloc ?_ | refine Ext.drew ?_ | refine Ext.drewN ?_ | refine Ext.set ?_ (Ext.size ?_) | refine Ext.set ?_ (Ext.size1 ?_) | refine Ext.set ?_ (Ext.size2 ?_) | refine Ext.trans ?_ (by assumption)))))

/-- The upper half of a difference as the code comes to it. -/
def hdif (a b c : Int) : Int := wrap64 (a - b - c)
theorem hdif_eq (a b c : Int) : wrap64 ((IntKind.u64.wrap a - IntKind.u64.wrap b - c) % 18446744073709551616) = hdif a b c := by unfold hdif wrap64; rw [u64_eq, u64_eq]; omega
theorem hdif_def (a b c : Int) : hdif a b c = (a - b - c + 9223372036854775808) % 18446744073709551616 - 9223372036854775808 := by unfold hdif wrap64; rfl


set_option maxRecDepth 100000 in
set_option maxHeartbeats 1600000 in
theorem wsub (m n : Int) (w : World) (hm : W128 m) (hn : W128 n) :
    Calls Try.prog 47 #[.agg #[.int .i64 (hi m), .int .u64 (lo m)], .agg #[.int .i64 (hi n), .int .u64 (lo n)]] w (RetT w (m - n)) := by
  have r102 := run_sub64'
  obtain ⟨a0, a1⟩ := lo_bd m
  obtain ⟨b0, b1⟩ := lo_bd n
  obtain ⟨a2, a3⟩ := hi_bd hm
  obtain ⟨b2, b3⟩ := hi_bd hn
  have u1 := u64_nonneg (hi m)
  have u2 := u64_nonneg (hi n)
  have u3 := u64_lt (hi m)
  have u4 := u64_lt (hi n)
  have c0 : 0 ≤ bor (lo m) (lo n) 0 := by rw [bor_def]; omega
  have c1 : bor (lo m) (lo n) 0 ≤ 1 := by rw [bor_def]; omega
  go_enter Try.func47, Try.ntmps47
  go_wp2
  all_goals
    have hi1 := hi_sub m n
    have lo1 := lo_sub m n
    have W1 := W128_iff (m - n)
    have hd := hdif_def (hi m) (hi n) (bor (lo m) (lo n) 0)
    have hbo := bor_def (lo m) (lo n) 0
    rw [Int.sub_zero] at hbo
    simp only [hdif_eq] at *
    clear r102 u1 u2 u3 u4
    first
    | (refine bodyPost_ret (v := .tuple #[.agg #[.int .i64 (hdif (hi m) (hi n) (bor (lo m) (lo n) 0)), .int .u64 ((lo m - lo n) % 18446744073709551616)], .int .i64 0]) (by simp [results, Try.results47, go_sem]) rfl
        (retT_yes (W1.2 (by (first | omega | grind | (simp only [Bool.not_eq_eq_eq_not, Bool.not_false, Bool.not_true, beq_iff_eq, beq_eq_false_iff_ne, ne_eq, decide_eq_decide] at *; omega)))) (by (first | omega | grind | (simp only [Bool.not_eq_eq_eq_not, Bool.not_false, Bool.not_true, beq_iff_eq, beq_eq_false_iff_ne, ne_eq, decide_eq_decide] at *; omega))) lo1.symm (by repeat (first | exact Ext.refl _ | refine Ext.alloc ?_ | refine Ext.drew ?_ | refine Ext.drewN ?_ | refine Ext.set ?_ (Ext.size ?_) | refine Ext.set ?_ (Ext.size1 ?_) | refine Ext.set ?_ (Ext.size2 ?_) | refine Ext.trans ?_ (by assumption)))))
    | (refine bodyPost_ret (v := .tuple #[.agg #[.int .i64 0, .int .u64 0], .int .i64 2]) (by simp [results, Try.results47, go_sem]) rfl
        (retT_no (fun h => by have := W1.1 h; (first | omega | grind | (simp only [Bool.not_eq_eq_eq_not, Bool.not_false, Bool.not_true, beq_iff_eq, beq_eq_false_iff_ne, ne_eq, decide_eq_decide] at *; omega))) (by repeat (first | exact Ext.refl _ | refine Ext.alloc ?_ | refine Ext.drew ?_ | refine Ext.drewN ?_ | refine Ext.set ?_ (Ext.size ?_) | refine Ext.set ?_ (Ext.size1 ?_) | refine Ext.set ?_ (Ext.size2 ?_) | refine Ext.trans ?_ (by assumption)))))

theorem W128_zero : W128 0 := by unfold W128; omega
theorem hi_zero : hi 0 = 0 := rfl
theorem lo_zero : lo 0 = 0 := rfl

set_option maxRecDepth 100000 in
set_option maxHeartbeats 1600000 in
theorem wneg (n : Int) (w : World) (hn : W128 n) :
    Calls Try.prog 49 #[.agg #[.int .i64 (hi n), .int .u64 (lo n)]] w (RetT w (-n)) := by
  have h0 := wsub 0 n
  rw [hi_zero, lo_zero] at h0
  have H0 := Lib.hid h0
  clear h0
  go_enter Try.func49, Try.ntmps49
  go_wp2_with fail
  refine (H0.out _ W128_zero hn).mono ?_
  rintro e w1 ⟨rfl, x1⟩
  obtain ⟨b1, b2⟩ := newB x1
  have q0 := b2.c0
  have q1 := b2.c1
  have q2 := b2.f0
  have q3 := b2.f1
  rw [Int.zero_sub]
  go_wp2_with fail
  refine bodyPost_ret (v := .tuple #[.agg #[.int .i64 (thi (-n)), .int .u64 (tlo (-n))], .int .i64 (ter (-n))]) (by simp [results, Try.results49, go_sem, q0, q1]) rfl ⟨rfl, ?_⟩
  exact (Ext.set (Ext.set (Ext.trans (Ext.refl w).alloc.alloc x1) (by omega)) (by omega))

set_option maxRecDepth 100000 in
set_option maxHeartbeats 1600000 in
theorem wcmp (m n : Int) (w : World) :
    Calls Try.prog 36 #[.agg #[.int .i64 (hi m), .int .u64 (lo m)], .agg #[.int .i64 (hi n), .int .u64 (lo n)]] w (fun e w' => e = .returned (.int .i64 (cmpI m n)) ∧ Ext w w') := by
  go_enter Try.func36, Try.ntmps36
  go_wp2
  all_goals
    have a := hi_lo m
    have b := hi_lo n
    have := lo_bd m
    have := lo_bd n
    first
    | (refine bodyPost_ret (v := .int .i64 0) (by simp [results, Try.results36, go_sem]) rfl ⟨by rw [cmpI_eq (by (first | omega | grind | (simp only [Bool.not_eq_eq_eq_not, Bool.not_false, Bool.not_true, beq_iff_eq, beq_eq_false_iff_ne, ne_eq, decide_eq_decide] at *; omega)))], (by repeat (first | exact Ext.refl _ | refine Ext.alloc ?_ | refine Ext.drew ?_ | refine Ext.drewN ?_ | refine Ext.set ?_ (Ext.size ?_) | refine Ext.set ?_ (Ext.size1 ?_) | refine Ext.set ?_ (Ext.size2 ?_) | refine Ext.trans ?_ (by assumption)))⟩)
    | (refine bodyPost_ret (v := .int .i64 (-1)) (by simp [results, Try.results36, go_sem]) rfl ⟨by rw [cmpI_lt (by (first | omega | grind | (simp only [Bool.not_eq_eq_eq_not, Bool.not_false, Bool.not_true, beq_iff_eq, beq_eq_false_iff_ne, ne_eq, decide_eq_decide] at *; omega)))], (by repeat (first | exact Ext.refl _ | refine Ext.alloc ?_ | refine Ext.drew ?_ | refine Ext.drewN ?_ | refine Ext.set ?_ (Ext.size ?_) | refine Ext.set ?_ (Ext.size1 ?_) | refine Ext.set ?_ (Ext.size2 ?_) | refine Ext.trans ?_ (by assumption)))⟩)
    | (refine bodyPost_ret (v := .int .i64 1) (by simp [results, Try.results36, go_sem]) rfl ⟨by rw [cmpI_gt (by (first | omega | grind | (simp only [Bool.not_eq_eq_eq_not, Bool.not_false, Bool.not_true, beq_iff_eq, beq_eq_false_iff_ne, ne_eq, decide_eq_decide] at *; omega)))], (by repeat (first | exact Ext.refl _ | refine Ext.alloc ?_ | refine Ext.drew ?_ | refine Ext.drewN ?_ | refine Ext.set ?_ (Ext.size ?_) | refine Ext.set ?_ (Ext.size1 ?_) | refine Ext.set ?_ (Ext.size2 ?_) | refine Ext.trans ?_ (by assumption)))⟩)

end Go.Proofs.Ytmkddcmfofabbaa
