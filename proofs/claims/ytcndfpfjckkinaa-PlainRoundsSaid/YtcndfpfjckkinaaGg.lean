/-
  divide.bare.down: the iterator over a number's bits, the highest one first: its contract for a range over a function.
-/
import Derived.Test.YtcndfpfjckkinaaGe
import Derived.RangeFuncNested
import Derived.RangeFuncBound
import Derived.RangeFuncCalls
import Derived.RangeFuncLeaves
import Derived.Shelf.Abstract
import Derived.Shelf.RegionOpen
import Derived.OwnWalkIn
import Derived.TacticsInMore
import Derived.LoopNIn
import Derived.LoopIn
import Derived.RangeFuncFrom
import Derived.Test.YtcndfpfjckkinaaGf
namespace Go.Proofs.Ytcndfpfjckkinaa
open Go Go.RowKit Go.Shelf
attribute [local go_sem] Oper.semAt_some

/-- A bit. -/
abbrev Bit := { x : Int // x = 0 ∨ x = 1 }
def bitAt (b : Int) (i : Nat) : Bit := ⟨shr b i % 2, by omega⟩
/-- The bits that have come when k rounds are over. -/
def bitsOf (b : Int) (k : Nat) : List Bit := (List.range k).map fun j => bitAt b (127 - j)
theorem bitsOf_succ (b : Int) (k : Nat) : bitsOf b (k + 1) = bitsOf b k ++ [bitAt b (127 - k)] := by simp [bitsOf, List.range_succ]

theorem and_one (x : Int) (h0 : 0 ≤ x) (h1 : x < 18446744073709551616) : bits .and .u64 x 1 = x % 2 := by
  obtain ⟨X, rfl⟩ := Int.eq_ofNat_of_zero_le h0
  have h := bits_and_u64_nat X 1 (by omega) (by omega)
  have e : X &&& 1 = X % 2 := Nat.and_two_pow_sub_one_eq_mod X 1
  rw [e] at h
  exact h
theorem shr_lt {x : Int} (h0 : 0 ≤ x) (h1 : x < 18446744073709551616) (s : Nat) : 0 ≤ x / 2 ^ s ∧ x / 2 ^ s < 18446744073709551616 := by
  have := shr_nonneg h0 s
  have := shr_le h0 s
  rw [shr_pow] at *
  omega
theorem bit_hi {b : Int} (hb : U128 b) {k : Nat} (hk : k ≤ 63) : bits .and .u64 (hi b / 2 ^ ((127 - k) % 64)) 1 = (bitAt b (127 - k)).1 := by
  obtain ⟨a2, a3⟩ := hi_U hb
  obtain ⟨c0, c1⟩ := shr_lt a2 a3 ((127 - k) % 64)
  rw [and_one _ c0 c1]
  show _ = shr b (127 - k) % 2
  rw [show 127 - k = 64 + (127 - k) % 64 by omega, shr_add, shr_pow, shr_pow, show (64 + (127 - k) % 64) % 64 = (127 - k) % 64 by omega]
  rfl
theorem lo_bit (b : Int) {s : Nat} (hs : s ≤ 63) : lo b / 2 ^ s % 2 = shr b s % 2 := by
  rw [shr_pow]
  unfold lo
  have e : (18446744073709551616 : Int) = 2 ^ s * (2 * 2 ^ (63 - s)) := by
    rw [show (2 : Int) * 2 ^ (63 - s) = 2 ^ (64 - s) by rw [show 64 - s = (63 - s) + 1 by omega, Int.pow_succ, Int.mul_comm], ← Int.pow_add, show s + (64 - s) = 64 by omega]; rfl
  have hp : (0 : Int) < 2 ^ s := Int.pow_pos (by omega)
  have h1 : b % 18446744073709551616 = b - 18446744073709551616 * (b / 18446744073709551616) := by omega
  rw [h1]
  generalize b / 18446744073709551616 = c
  have h2 : b - 18446744073709551616 * c = b + 2 ^ s * (-(2 * 2 ^ (63 - s) * c)) := by
    conv => lhs; rw [e]
    rw [Int.mul_neg, Int.mul_assoc (2 ^ s)]; rfl
  rw [h2, Int.add_mul_ediv_left _ _ (by omega), Int.mul_assoc]
  generalize 2 ^ (63 - s) * c = d
  generalize b / 2 ^ s = f
  omega
theorem bit_lo {b : Int} {k : Nat} (hk : 64 ≤ k) (hk2 : k ≤ 127) : bits .and .u64 (lo b / 2 ^ ((127 - k) % 64)) 1 = (bitAt b (127 - k)).1 := by
  obtain ⟨a2, a3⟩ := lo_bd b
  obtain ⟨c0, c1⟩ := shr_lt a2 a3 ((127 - k) % 64)
  rw [and_one _ c0 c1, lo_bit _ (by omega)]
  show _ = shr b (127 - k) % 2
  rw [show (127 - k) % 64 = 127 - k by omega]


set_option maxRecDepth 100000 in
set_option maxHeartbeats 1600000 in
theorem down_in (l Bn : Nat) (b : Int) (hb : U128 b) (J Jx : List Bit → World → Prop)
    (hY : ∀ pre (x : Bit) W, J pre W → pre.length < 128 → YieldAt Fence.wide 8 Try.prog l #[.int .u64 x.1] W fun e W' =>
      (e = .returned (.bool true) ∧ J (pre ++ [x]) W' ∧ W'.heap[Bn]? = W.heap[Bn]?) ∨ (e = .returned (.bool false) ∧ Jx (pre ++ [x]) W'))
    (W : World) (hB : Box2 W Bn (.int .u64 (hi b)) (.int .u64 (lo b)) 213) (h0 : J [] W) :
    CallsIn Fence.wide 9 Try.prog 228 #[.func (.yield l) #[] #[], .pointer (some ⟨Bn, 0, none⟩)] W fun e W' => (∃ v, e = .returned v) ∧
      ((∃ ys, ys = bitsOf b 128 ∧ J ys W') ∨ (∃ pre, pre.length ≤ 128 ∧ Jx pre W')) := by
  obtain ⟨a0, a1⟩ := lo_bd b
  obtain ⟨a2, a3⟩ := hi_U hb
  refine callsIn_of_wp Try.func228 rfl trivial ?_ rfl
  simp only [Try.ntmps228, List.size_toArray, List.length_cons, List.length_nil, Nat.reduceAdd, Nat.reduceSub, Array.replicate_succ, Array.replicate_zero, List.push_toArray, List.append_toArray, List.nil_append, List.cons_append]
  gi_wp2
  gi_loopw [3, 4] (fun p q wr => ∃ k : Nat, k ≤ 128 ∧ p = .int .i64 (127 - k) ∧ Box2 wr Bn (.int .u64 (hi b)) (.int .u64 (lo b)) 213 ∧ J (bitsOf b k) wr)
    (fun p q wr => (intOf p + 1).toNat)
  case atStart =>
    exact ⟨0, by omega, rfl, hB, h0⟩
  case round =>
    obtain ⟨k, hk, rfl, hBr, hJ⟩ := hrel
    have hc0 := hBr.c0
    have hc1 := hBr.c1
    by_cases hk8 : k = 128
    · subst hk8
      gi_wp2
      go_end0
      exact ⟨⟨_, rfl⟩, .inl ⟨_, rfl, hJ⟩⟩
    · obtain ⟨fn, tmps, assign, body, hy, hR⟩ := hY (bitsOf b k) (bitAt b (127 - k)) wr hJ (by simp [bitsOf]; omega)
      by_cases hk6 : k ≤ 63
      · rw [← bit_hi hb hk6] at hy
        gi_wp2
        refine hR.mono ?_
        rintro e W3 (⟨rfl, hJ3, hk3⟩ | ⟨rfl, hJx3⟩)
        · gi_wp2
          go_roundw
          case rel => exact ⟨k + 1, by omega, by congr 1; omega, hk3.trans hBr, by rw [bitsOf_succ]; exact hJ3⟩
          case measure => simp [intOf]; omega
        · gi_wp2
          refine bodyPost_ret (results_none rfl _ _ _) rfl ?_
          exact ⟨⟨_, rfl⟩, .inr ⟨bitsOf b k ++ [bitAt b (127 - k)], by simp [bitsOf]; omega, hJx3⟩⟩
      · rw [← bit_lo (show 64 ≤ k by omega) (show k ≤ 127 by omega)] at hy
        gi_wp2
        refine hR.mono ?_
        rintro e W3 (⟨rfl, hJ3, hk3⟩ | ⟨rfl, hJx3⟩)
        · gi_wp2
          go_roundw
          case rel => exact ⟨k + 1, by omega, by congr 1; omega, hk3.trans hBr, by rw [bitsOf_succ]; exact hJ3⟩
          case measure => simp [intOf]; omega
        · gi_wp2
          refine bodyPost_ret (results_none rfl _ _ _) rfl ?_
          exact ⟨⟨_, rfl⟩, .inr ⟨bitsOf b k ++ [bitAt b (127 - k)], by simp [bitsOf]; omega, hJx3⟩⟩
/-- The iterator's contract: it reads its own box alone. -/
theorem down_stops (Bn : Nat) (b : Int) (hb : U128 b) (w : World) (hB : Box2 w Bn (.int .u64 (hi b)) (.int .u64 (lo b)) 213) :
    SeqStopsK Fence.wide 9 Try.prog 228 #[.pointer (some ⟨Bn, 0, none⟩)] (fun x : Bit => #[Value.int .u64 x.1]) (fun W W' => W'.heap[Bn]? = W.heap[Bn]?) (fun ys => ys = bitsOf b 128) (fun pre => pre.length ≤ 128) 128 w := fun l J Jx W hW _ _ hY h0 =>
  down_in l Bn b hb J Jx hY W (hB.below hW) h0
end Go.Proofs.Ytcndfpfjckkinaa

/-
  divide.bare: less, down.
-/
namespace Go.Proofs.Ytcndfpfjckkinaa
open Go Go.RowKit

theorem lt_hl (x y : Int) : (decide (hi x < hi y) || (hi x == hi y && decide (lo x < lo y))) = decide (x < y) := by
  have e1 := hi_lo x
  have e2 := hi_lo y
  have l1 := lo_bd x
  have l2 := lo_bd y
  rw [Bool.eq_iff_iff]
  simp only [Bool.or_eq_true, Bool.and_eq_true, decide_eq_true_eq, beq_iff_eq]
  generalize hi x = X at *
  generalize hi y = Y at *
  generalize lo x = x0 at *
  generalize lo y = y0 at *
  omega
set_option maxRecDepth 100000 in
set_option maxHeartbeats 1600000 in
theorem dless (x y : Int) (w : World) :
    Calls Try.prog 226 #[.agg #[.int .u64 (hi x), .int .u64 (lo x)], .agg #[.int .u64 (hi y), .int .u64 (lo y)]] w (fun e w' => e = .returned (.bool (decide (x < y))) ∧ w' = (w.alloc (.cells #[.int .u64 (hi x), .int .u64 (lo x)] 213)).alloc (.cells #[.int .u64 (hi y), .int .u64 (lo y)] 213)) := by
  have HE := Lib.hid (lt_hl x y)
  go_enter Try.func226, Try.ntmps226
  go_wp2
  all_goals
    have he := HE.out
    clear HE
    go_ret
    refine ⟨?_, by simp_all⟩
    rw [← he]
    clear he
    simp_all
set_option maxRecDepth 100000 in
set_option maxHeartbeats 1600000 in
theorem ddown (b : Int) (w : World) :
    Calls Try.prog 225 #[.agg #[.int .u64 (hi b), .int .u64 (lo b)]] w (fun e w' => e = .returned (.func (.func 228) #[] #[.pointer (some ⟨w.heap.size, 0, none⟩)]) ∧ w' = w.alloc (.cells #[.int .u64 (hi b), .int .u64 (lo b)] 213)) := by
  go_enter Try.func225, Try.ntmps225
  go_wp2
  go_ret
  exact ⟨rfl, rfl⟩
end Go.Proofs.Ytcndfpfjckkinaa

/-
  divide.bare.over by a number of more than 64 bits: the range over a number's bits.
-/
namespace Go.Proofs.Ytcndfpfjckkinaa
open Go Go.RowKit Go.Shelf
attribute [local go_sem] Oper.semAt_some

def valB (xs : List Bit) : Int := xs.foldl (fun v x => 2 * v + x.1) 0
theorem valB_snoc (xs : List Bit) (x : Bit) : valB (xs ++ [x]) = 2 * valB xs + x.1 := by simp [valB]
theorem fold_lt (xs : List Bit) (v : Int) (h0 : 0 ≤ v) (m : Nat) (h1 : v < 2 ^ m) : 0 ≤ xs.foldl (fun v x => 2 * v + x.1) v ∧ xs.foldl (fun v x => 2 * v + x.1) v < 2 ^ (m + xs.length) := by
  induction xs generalizing v m with
  | nil => exact ⟨h0, h1⟩
  | cons x xs ih =>
    have := x.2
    have h := ih (2 * v + x.1) (by omega) (m + 1) (by rw [Int.pow_succ]; omega)
    rw [show m + 1 + xs.length = m + (x :: xs).length by simp; omega] at h
    exact h
theorem valB_lt (xs : List Bit) : 0 ≤ valB xs ∧ valB xs < 2 ^ xs.length := by
  have h := fold_lt xs 0 (by omega) 0 (by decide)
  rw [Nat.zero_add] at h
  exact h
theorem valB_bits {b : Int} (hb : U128 b) (k : Nat) (hk : k ≤ 128) : valB (bitsOf b k) = shr b (128 - k) := by
  induction k with
  | zero =>
    show (0 : Int) = shr b 128
    rw [shr_top hb.1]
    exact hb.2
  | succ k ih =>
    rw [bitsOf_succ, valB_snoc, ih (by omega)]
    show 2 * _ + shr b (127 - k) % 2 = _
    have e := shr_succ b (127 - k)
    rw [show 128 - k = 127 - k + 1 by omega, e, show 128 - (k + 1) = 127 - k by omega]
    omega
theorem valB_all {b : Int} (hb : U128 b) : valB (bitsOf b 128) = b := by rw [valB_bits hb 128 (by omega)]; exact shr_zero b

/-- A block of two cells, of what has come. -/
theorem box_own {β : Type} (k : Nat) (t : TypeId) (f g : β → Value) : Go.Own (fun s W => Box2 W k (f s) (g s) t) := fun _ _ _ _ hs hg hr =>
  (grownBy_keeps_cells hg hr hs rfl).trans hs

theorem twice_hi {r x : Int} (r0 : 0 ≤ r) (hx : x = 0 ∨ x = 1) (h : 2 * r + x < 340282366920938463463374607431768211456) : bits .or .u64 (IntKind.u64.wrap (hi r * 2)) (lo r / 9223372036854775808) = hi (2 * r + x) := by
  have e := or_add (hi r) (lo r / 9223372036854775808) 1
  rw [show (2 : Int) ^ 1 = 2 from rfl] at e
  rw [u64_id (by unfold hi; omega) (by unfold hi; omega), e (by unfold hi; omega) (by unfold lo; omega) (by unfold hi; omega) (by unfold lo; omega) (by unfold hi lo; omega)]
  unfold hi lo
  omega
theorem twice_lo (r : Int) {x : Int} (hx : x = 0 ∨ x = 1) : bits .or .u64 (IntKind.u64.wrap (lo r * 2)) x = lo (2 * r + x) := by
  have e := or_add (lo r % 9223372036854775808) x 1
  rw [show (2 : Int) ^ 1 = 2 from rfl] at e
  rw [show IntKind.u64.wrap (lo r * 2) = lo r % 9223372036854775808 * 2 by rw [u64_eq]; omega, e (by omega) (by omega) (by omega) (by omega) (by omega)]
  unfold lo
  omega
theorem twice_low (q : Int) : IntKind.u64.wrap (lo q * 2) = lo (2 * q) := by rw [u64_eq]; unfold lo; omega
theorem twice_odd (q : Int) : bits .or .u64 (lo (2 * q)) 1 = lo (2 * q + 1) := by
  have e := or_add (lo (2 * q) / 2) 1 1
  rw [show (2 : Int) ^ 1 = 2 from rfl, show lo (2 * q) / 2 * 2 = lo (2 * q) by unfold lo; omega] at e
  have := lo_bd (2 * q)
  rw [e (by omega) (by omega) (by omega) (by omega) (by unfold lo; omega)]
  unfold lo
  omega
theorem valB_pre {pre : List Bit} (h : pre.length < 128) : 0 ≤ valB pre ∧ valB pre < 170141183460469231731687303715884105728 := by
  obtain ⟨h0, h1⟩ := valB_lt pre
  have h2 : ((2 ^ pre.length : Nat) : Int) ≤ ((2 ^ 127 : Nat) : Int) := Int.ofNat_le.2 (Nat.pow_le_pow_right (by omega) (by omega))
  rw [Int.natCast_pow] at h2
  have h3 : (2 : Int) ^ pre.length ≤ 170141183460469231731687303715884105728 := h2
  omega
/-- One bit more. -/
theorem over_step {P d x : Int} (d0 : 18446744073709551616 ≤ d) (d1 : d ≤ 170141183460469231731687303715884105728) (P0 : 0 ≤ P) (P1 : P < 170141183460469231731687303715884105728) (hx : x = 0 ∨ x = 1) :
    0 ≤ P % d ∧ 2 * (P % d) + x < 340282366920938463463374607431768211456 ∧ 0 ≤ P / d ∧ 2 * (P / d) + 1 < 340282366920938463463374607431768211456 ∧
      (if 2 * (P % d) + x < d then (2 * P + x) / d = 2 * (P / d) ∧ (2 * P + x) % d = 2 * (P % d) + x else (2 * P + x) / d = 2 * (P / d) + 1 ∧ (2 * P + x) % d = 2 * (P % d) + x - d) := by
  have e := Int.emod_add_mul_ediv P d
  have r0 := Int.emod_nonneg P (show d ≠ 0 by omega)
  have r1 := Int.emod_lt_of_pos P (show 0 < d by omega)
  have q0 : 0 ≤ P / d := Int.ediv_nonneg P0 (by omega)
  have q1 : P / d ≤ P := Int.ediv_le_self _ P0
  generalize P / d = q at *
  generalize P % d = r at *
  refine ⟨r0, by omega, q0, by omega, ?_⟩
  have key : ∀ q' r' : Int, 2 * P + x = r' + d * q' → 0 ≤ r' → r' < d → (2 * P + x) / d = q' ∧ (2 * P + x) % d = r' := by
    intro q' r' h h0 h1
    rw [h]
    exact ⟨by rw [Int.add_mul_ediv_left _ _ (by omega), Int.ediv_eq_zero_of_lt h0 h1]; omega, by rw [Int.add_mul_emod_self_left, Int.emod_eq_of_lt h0 h1]⟩
  have m : d * (2 * q) = 2 * (d * q) := by rw [← Int.mul_assoc, Int.mul_comm d 2, Int.mul_assoc]
  split
  · exact key _ _ (by rw [m]; omega) (by omega) (by omega)
  · exact key _ _ (by rw [Int.mul_add, m]; omega) (by omega) (by omega)

/-- What the loop's cells hold: the quotient, the rest; and what stands. -/
def OverJ (w : World) (b d q r : Int) (W : World) : Prop :=
  Box2 W (w.heap.size + 1 + 1 + 1 + 1) (.int .u64 (hi q)) (.int .u64 (lo q)) 213 ∧
  Box2 W (w.heap.size + 1 + 1 + 1 + 1 + 1) (.int .u64 (hi r)) (.int .u64 (lo r)) 213 ∧
  Box2 W (w.heap.size + 1) (.int .u64 (hi d)) (.int .u64 (lo d)) 213 ∧
  Box2 W (w.heap.size + 1 + 1) (.int .u64 0) (.int .u64 0) 213 ∧ Box2 W (w.heap.size + 1 + 1 + 1) (.int .u64 0) (.int .u64 0) 213 ∧
  Box2 W (w.heap.size + 1 + 1 + 1 + 1 + 1 + 1) (.int .u64 (hi b)) (.int .u64 (lo b)) 213
def OverI (w : World) (b d : Int) (pre : List Bit) (W : World) : Prop := OverJ w b d (valB pre / d) (valB pre % d) W
theorem overI_own (w : World) (b d : Int) : Go.Own (OverI w b d) := fun s X Y row hs hg hr =>
  ⟨box_own _ _ (fun pre => .int .u64 (hi (valB pre / d))) (fun pre => .int .u64 (lo (valB pre / d))) s X Y row hs.1 hg hr,
    box_own _ _ (fun pre => .int .u64 (hi (valB pre % d))) (fun pre => .int .u64 (lo (valB pre % d))) s X Y row hs.2.1 hg hr,
    box_own _ _ (fun _ => .int .u64 (hi d)) (fun _ => .int .u64 (lo d)) s X Y row hs.2.2.1 hg hr,
    box_own _ _ (fun _ => .int .u64 0) (fun _ => .int .u64 0) s X Y row hs.2.2.2.1 hg hr,
    box_own _ _ (fun _ => .int .u64 0) (fun _ => .int .u64 0) s X Y row hs.2.2.2.2.1 hg hr,
    box_own _ _ (fun _ => .int .u64 (hi b)) (fun _ => .int .u64 (lo b)) s X Y row hs.2.2.2.2.2 hg hr⟩
theorem OverJ.alloc {w W : World} {b d q r : Int} (h : OverJ w b d q r W) (o : Obj) : OverJ w b d q r (W.alloc o) :=
  ⟨h.1.alloc o, h.2.1.alloc o, h.2.2.1.alloc o, h.2.2.2.1.alloc o, h.2.2.2.2.1.alloc o, h.2.2.2.2.2.alloc o⟩
theorem OverJ.setR {w W : World} {b d q r : Int} (h : OverJ w b d q r W) (x : Int) : OverJ w b d q x ((W.setCell ⟨w.heap.size + 1 + 1 + 1 + 1 + 1, 0, none⟩ (.int .u64 (hi x))).setCell ⟨w.heap.size + 1 + 1 + 1 + 1 + 1, 1, none⟩ (.int .u64 (lo x))) :=
  ⟨h.1.other2 (by omega) _ _, h.2.1.set _ _, h.2.2.1.other2 (by omega) _ _, h.2.2.2.1.other2 (by omega) _ _, h.2.2.2.2.1.other2 (by omega) _ _, h.2.2.2.2.2.other2 (by omega) _ _⟩
theorem OverJ.setQ {w W : World} {b d q r : Int} (h : OverJ w b d q r W) (x : Int) : OverJ w b d x r ((W.setCell ⟨w.heap.size + 1 + 1 + 1 + 1, 0, none⟩ (.int .u64 (hi x))).setCell ⟨w.heap.size + 1 + 1 + 1 + 1, 1, none⟩ (.int .u64 (lo x))) :=
  ⟨h.1.set _ _, h.2.1.other2 (by omega) _ _, h.2.2.1.other2 (by omega) _ _, h.2.2.2.1.other2 (by omega) _ _, h.2.2.2.2.1.other2 (by omega) _ _, h.2.2.2.2.2.other2 (by omega) _ _⟩
theorem OverJ.odd {w W : World} {b d q r : Int} (h : OverJ w b d (2 * q) r W) : OverJ w b d (2 * q + 1) r (W.setCell ⟨w.heap.size + 1 + 1 + 1 + 1, 1, none⟩ (.int .u64 (lo (2 * q + 1)))) := by
  refine ⟨?_, h.2.1.other (by omega) _ _, h.2.2.1.other (by omega) _ _, h.2.2.2.1.other (by omega) _ _, h.2.2.2.2.1.other (by omega) _ _, h.2.2.2.2.2.other (by omega) _ _⟩
  have e : hi (2 * q + 1) = hi (2 * q) := by unfold hi; omega
  rw [e]
  exact Joins.block_setCell (i := 1) h.1 _
theorem overI_nil {w V : World} {b d : Int} (hQ : Box2 V (w.heap.size + 1 + 1 + 1 + 1) (.int .u64 0) (.int .u64 0) 213) (hR : Box2 V (w.heap.size + 1 + 1 + 1 + 1 + 1) (.int .u64 0) (.int .u64 0) 213)
    (hD : Box2 V (w.heap.size + 1) (.int .u64 (hi d)) (.int .u64 (lo d)) 213) (h4 : Box2 V (w.heap.size + 1 + 1) (.int .u64 0) (.int .u64 0) 213) (h5 : Box2 V (w.heap.size + 1 + 1 + 1) (.int .u64 0) (.int .u64 0) 213)
    (hX : Box2 V (w.heap.size + 1 + 1 + 1 + 1 + 1 + 1) (.int .u64 (hi b)) (.int .u64 (lo b)) 213) : OverI w b d [] V := by
  have e1 : valB [] / d = 0 := Int.zero_ediv d
  have e2 : valB [] % d = 0 := Int.zero_emod d
  refine ⟨?_, ?_, hD, h4, h5, hX⟩
  · rw [e1]; exact hQ
  · rw [e2]; exact hR

theorem hi_pair {x d : Int} (d1 : d ≤ 170141183460469231731687303715884105728) (h : x < 340282366920938463463374607431768211456) (hl : ¬ x < d) (d0 : 18446744073709551616 ≤ d) :
    0 ≤ hi x ∧ hi x < 18446744073709551616 ∧ 0 ≤ hi d ∧ hi d < 18446744073709551616 := by unfold hi; omega
theorem sub_hi (x d : Int) (h0 : 0 ≤ hi x) (h1 : hi x < 18446744073709551616) (h2 : 0 ≤ hi d) (h3 : hi d < 18446744073709551616) (hl : ¬ x < d) : (hi x - hi d - bor (lo x) (lo d) 0) % 18446744073709551616 = hi (x - d) := by
  rw [bor_def]; unfold hi lo at *; omega
set_option maxRecDepth 100000 in
set_option maxHeartbeats 3200000 in
theorem over_great (b d : Int) (w : World) (hb : U128 b) (d0 : 18446744073709551616 ≤ d) (d1 : d ≤ 170141183460469231731687303715884105728) :
    Calls Try.prog 196 #[.agg #[.int .u64 (hi b), .int .u64 (lo b)], .agg #[.int .u64 (hi d), .int .u64 (lo d)]] w (RetB w (b / d) (b % d)) := by
  obtain ⟨W0, hW0⟩ : ∃ W0, W0 = (((((w.alloc (.cells #[.int .u64 (hi b), .int .u64 (lo b)] 213)).alloc (.cells #[.int .u64 (hi d), .int .u64 (lo d)] 213)).alloc (.cells #[.int .u64 0, .int .u64 0] 213)).alloc (.cells #[.int .u64 0, .int .u64 0] 213)).alloc (.cells #[.int .u64 0, .int .u64 0] 213)).alloc (.cells #[.int .u64 0, .int .u64 0] 213) := ⟨_, rfl⟩
  have hd : (hi d == 0) = false := by rw [beq_eq_false_iff_ne]; unfold hi; omega
  have HB := Lib.hid hb
  have HD0 := Lib.hid d0
  have HD1 := Lib.hid d1
  clear hb d0 d1
  refine (callsIn_wide (n := 10)).1 ?_
  refine callsIn_of_wp_marks Try.func196 rfl trivial ?_ rfl
  simp only [Try.ntmps196, List.size_toArray, List.length_cons, List.length_nil, Nat.reduceAdd, Nat.reduceSub, Array.replicate_succ, Array.replicate_zero, List.push_toArray, List.append_toArray, List.nil_append, List.cons_append]
  obtain ⟨z, hz⟩ : ∃ z, (hi b == 0) = z := ⟨_, rfl⟩
  cases z
  · gi_wp2_with (refine ⟨trivial, ?_⟩; gi_at_call 225; refine (callsIn_wide.2 (ddown b _)).mono ?_; rintro e w' ⟨rfl, rfl⟩)
    rw [← hW0]
    obtain ⟨V, hV⟩ : ∃ V, V = W0.alloc (.cells #[.int .u64 (hi b), .int .u64 (lo b)] 213) := ⟨_, rfl⟩
    have hX : Box2 V (w.heap.size + 1 + 1 + 1 + 1 + 1 + 1) (.int .u64 (hi b)) (.int .u64 (lo b)) 213 := by rw [hV]; exact Box2.new (by rw [hW0]; simp)
    have hD : Box2 V (w.heap.size + 1) (.int .u64 (hi d)) (.int .u64 (lo d)) 213 := by rw [hV, hW0]; exact (((((Box2.new (by simp)).alloc _).alloc _).alloc _).alloc _).alloc _
    have h4 : Box2 V (w.heap.size + 1 + 1) (.int .u64 0) (.int .u64 0) 213 := by rw [hV, hW0]; exact ((((Box2.new (by simp)).alloc _).alloc _).alloc _).alloc _
    have h5 : Box2 V (w.heap.size + 1 + 1 + 1) (.int .u64 0) (.int .u64 0) 213 := by rw [hV, hW0]; exact (((Box2.new (by simp)).alloc _).alloc _).alloc _
    have hQ : Box2 V (w.heap.size + 1 + 1 + 1 + 1) (.int .u64 0) (.int .u64 0) 213 := by rw [hV, hW0]; exact ((Box2.new (by simp)).alloc _).alloc _
    have hR : Box2 V (w.heap.size + 1 + 1 + 1 + 1 + 1) (.int .u64 0) (.int .u64 0) 213 := by rw [hV, hW0]; exact (Box2.new (by simp)).alloc _
    have xw : Ext w V := by rw [hV, hW0]; exact (Ext.refl w).alloc.alloc.alloc.alloc.alloc.alloc.alloc
    have sV : V.heap.size = w.heap.size + 7 := by rw [hV, hW0]; simp
    try rw [hW0, ← hV]
    try rw [← hV]
    clear hV hW0 W0
    refine wpIn_rangeFunc_ownF rfl (by omega) (gf := 228) (lb := #[.pointer (some ⟨w.heap.size + 1 + 1 + 1 + 1 + 1 + 1, 0, none⟩)]) rfl trivial (enters_of Try.func228 (by kernel_rfl) rfl)
      (down_stops (w.heap.size + 1 + 1 + 1 + 1 + 1 + 1) b HB.out V hX) (fun h k => k.trans h)
      (fun W l o o' hl h _ _ => (grownBy_putObj' W l o').block _ (by have := (Array.getElem?_eq_some_iff.1 h).1; omega) (fun e => by cases e; omega)) (Below.refl _ _) (fun _ => rfl)
      (fun pre W => OverI w b d pre W ∧ Below w.heap.size w W)
      (fun _ _ _ => False)
      (OwnFrom.and (Own.from (overI_own w b d) _) (ownFrom_below (Nat.le_refl _) (by rw [sV]; omega)))
      (fun _ _ _ _ _ hs _ _ => hs)
      ⟨overI_nil hQ hR hD h4 h5 hX, xw⟩ ?actA ?assignA ?bodyA ?doneA ?stopA
    case assignA =>
      intro l x W K hK
      gi_wp2
      exact hK
    case bodyA =>
      rintro l pre x W ⟨hJ, hBl⟩ hlt
      have hx := x.2
      obtain ⟨P0, P1⟩ := valB_pre hlt
      obtain ⟨r0, r1, q0, q1, hST⟩ := over_step (x := x.1) HD0.out HD1.out P0 P1 hx
      have HN := Lib.hid (valB_snoc pre x)
      have HST := Lib.hid hST
      have hXX : W.heap[w.heap.size + 1 + 1 + 1 + 1 + 1 + 1]? = _ := hJ.2.2.2.2.2
      clear hST P0 P1
      unfold OverI at hJ
      generalize valB pre / d = q at *
      generalize valB pre % d = r at *
      generalize x.1 = v at *
      have E1 := Lib.hid (twice_hi r0 hx r1)
      have E2 := Lib.hid (twice_lo r hx)
      have E3 := Lib.hid (twice_hi (x := 0) q0 (.inl rfl) (by omega))
      have E4 := Lib.hid (twice_low q)
      have E5 := Lib.hid (twice_odd q)
      have A1 := Lib.hid r1
      clear r1 q1 q0 r0 hx
      obtain ⟨hQ, hR, hD, h45⟩ := hJ
      have hQ_0 := hQ.c0; have hQ_1 := hQ.c1; have hR_0 := hR.c0; have hR_1 := hR.c1; have hD_0 := hD.c0; have hD_1 := hD.c1
      have hQ_2 := hQ.f0; have hQ_3 := hQ.f1; have hR_2 := hR.f0; have hR_3 := hR.f1
      gi_wp2
      clear hQ_0 hQ_1 hR_0 hR_1 hD_0 hD_1
      clear hQ_2 hQ_3 hR_2 hR_3
      rw [E1.out, E2.out, E3.out, E4.out, Int.add_zero]
      obtain ⟨W2, hW2⟩ : ∃ W2, W2 = (((W.setCell ⟨w.heap.size + 1 + 1 + 1 + 1 + 1, 0, none⟩ (.int .u64 (hi (2 * r + v)))).setCell ⟨w.heap.size + 1 + 1 + 1 + 1 + 1, 1, none⟩ (.int .u64 (lo (2 * r + v)))).setCell ⟨w.heap.size + 1 + 1 + 1 + 1, 0, none⟩ (.int .u64 (hi (2 * q)))).setCell ⟨w.heap.size + 1 + 1 + 1 + 1, 1, none⟩ (.int .u64 (lo (2 * q))) := ⟨_, rfl⟩
      rw [← hW2]
      have hJ : OverJ w b d (2 * q) (2 * r + v) W2 := by rw [hW2]; exact (OverJ.setR ⟨hQ, hR, hD, h45⟩ _).setQ _
      have hKO : KeepsOthers W W2 := by rw [hW2]; exact (((KeepsOthers.setCell _ _ _).trans (KeepsOthers.setCell _ _ _)).trans (KeepsOthers.setCell _ _ _)).trans (KeepsOthers.setCell _ _ _)
      replace hBl : Below w.heap.size w W2 := by rw [hW2]; exact below_set2 (below_set2 hBl (by omega) _ _) (by omega) _ _
      clear hW2 hQ hR hD h45
      refine ⟨trivial, (CallsIn.inRound l (callsIn_wide.2 (dless (2 * r + v) d W2))).mono ?_⟩
      rintro e w3 ⟨rfl, rfl⟩
      obtain ⟨W3, hW3⟩ : ∃ W3, W3 = (W2.alloc (.cells #[.int .u64 (hi (2 * r + v)), .int .u64 (lo (2 * r + v))] 213)).alloc (.cells #[.int .u64 (hi d), .int .u64 (lo d)] 213) := ⟨_, rfl⟩
      rw [← hW3]
      replace hJ : OverJ w b d (2 * q) (2 * r + v) W3 := by rw [hW3]; exact (hJ.alloc _).alloc _
      replace hKO : KeepsOthers W W3 := by rw [hW3]; exact (hKO.trans (KeepsOthers.alloc _ _)).trans (KeepsOthers.alloc _ _)
      replace hBl : Below w.heap.size w W3 := by rw [hW3]; exact (hBl.alloc hBl.size _).alloc (Nat.le_trans hBl.size (by simp)) _
      clear hW3
      by_cases hl : 2 * r + v < d
      · rw [decide_eq_true hl]
        gi_wp2
        have hst := HST.out
        rw [if_pos hl, ← HN.out] at hst
        refine ⟨hKO, hJ.2.2.2.2.2.trans hXX.symm, ?_, hBl⟩
        unfold OverI
        rw [hst.1, hst.2]
        exact hJ
      · rw [decide_eq_false hl]
        obtain ⟨hQ, hR, hD, h45⟩ := hJ
        have hQ_0 := hQ.c0; have hQ_1 := hQ.c1; have hR_0 := hR.c0; have hR_1 := hR.c1; have hD_0 := hD.c0; have hD_1 := hD.c1
        have hQ_2 := hQ.f0; have hQ_3 := hQ.f1; have hR_2 := hR.f0; have hR_3 := hR.f1
        have r102 := run_sub64'
        obtain ⟨l0, l1⟩ := lo_bd (2 * r + v)
        obtain ⟨l2, l3⟩ := lo_bd d
        obtain ⟨m0, m1, m2, m3⟩ := hi_pair HD1.out A1.out hl HD0.out
        have c0 : 0 ≤ bor (lo (2 * r + v)) (lo d) 0 := by rw [bor_def]; omega
        have c1 : bor (lo (2 * r + v)) (lo d) 0 ≤ 1 := by rw [bor_def]; omega
        gi_wp2
        refine ⟨trivial, ?_⟩
        gi_wp2
        refine ⟨trivial, ?_⟩
        gi_wp2
        clear r102
        rw [sub_hi _ _ m0 m1 m2 m3 (by omega), ← lo_sub, E5.out]
        have hst := HST.out
        rw [if_neg (by omega), ← HN.out] at hst
        have hJ' := (OverJ.setR ⟨hQ, hR, hD, h45⟩ (2 * r + v - d)).odd
        refine ⟨((hKO.trans (KeepsOthers.setCell _ _ _)).trans (KeepsOthers.setCell _ _ _)).trans (KeepsOthers.setCell _ _ _), hJ'.2.2.2.2.2.trans hXX.symm, ?_, (below_set2 hBl (by omega) _ _).setCell (p := ⟨_, 1, none⟩) (by simp; omega) _⟩
        unfold OverI
        rw [hst.1, hst.2]
        exact hJ'
    case doneA =>
      rintro D ys W hD' rfl ⟨⟨hQ, hR, hD, h4, h5, hX⟩, hBl⟩ hK
      rw [valB_all HB.out] at hQ hR
      generalize b / d = q at *
      generalize b % d = r at *
      have hQ_0 := hQ.c0; have hQ_1 := hQ.c1; have hR_0 := hR.c0; have hR_1 := hR.c1; have h4_0 := h4.c0; have h4_1 := h4.c1; have h5_0 := h5.c0; have h5_1 := h5.c1
      have hQ_2 := hQ.f0; have hQ_3 := hQ.f1; have hR_2 := hR.f0; have hR_3 := hR.f1; have h4_2 := h4.f0; have h4_3 := h4.f1; have h5_2 := h5.f0; have h5_3 := h5.f1
      gi_wp2
      gi_region
      gi_wp2
      obtain ⟨U, hU⟩ : ∃ U, U = ((((W.setCell ⟨w.heap.size + 1 + 1, 0, none⟩ (.int .u64 (hi q))).setCell ⟨w.heap.size + 1 + 1, 1, none⟩ (.int .u64 (lo q))).setCell ⟨w.heap.size + 1 + 1 + 1, 0, none⟩ (.int .u64 (hi r))).setCell ⟨w.heap.size + 1 + 1 + 1, 1, none⟩ (.int .u64 (lo r))).drew := ⟨_, rfl⟩
      rw [← hU]
      have k4 : Box2 U (w.heap.size + 1 + 1) (.int .u64 (hi q)) (.int .u64 (lo q)) 213 := by rw [hU]; exact ((h4.set _ _).other2 (by omega) _ _).drew
      have k5 : Box2 U (w.heap.size + 1 + 1 + 1) (.int .u64 (hi r)) (.int .u64 (lo r)) 213 := by rw [hU]; exact ((h5.other2 (by omega) _ _).set _ _).drew
      have hKU : U.heap[D]? = some (.deferred (some [])) := by
        rw [hU]
        exact (((((KeepsOthers.setCell _ _ _).trans (KeepsOthers.setCell _ _ _)).trans (KeepsOthers.setCell _ _ _)).trans (KeepsOthers.setCell _ _ _)).trans (KeepsOthers.drew _)).same D _ hK rfl
      have hBU : Ext w U := by rw [hU]; exact Ext.drew (below_set2 (below_set2 hBl (by omega) _ _) (by omega) _ _)
      clear hU
      refine ⟨by simp, .inl ⟨_, _, rfl, run_takeDeferred hKU, ?_⟩⟩
      have g4 : Box2 (U.putObj D (.deferred none)) (w.heap.size + 1 + 1) (.int .u64 (hi q)) (.int .u64 (lo q)) 213 := (grownBy_keeps_cells (grownBy_putObj' _ D (.deferred none)) (fun r e => by cases e; exact ⟨_, hKU, rfl⟩) k4 rfl).trans k4
      have g5 : Box2 (U.putObj D (.deferred none)) (w.heap.size + 1 + 1 + 1) (.int .u64 (hi r)) (.int .u64 (lo r)) 213 := (grownBy_keeps_cells (grownBy_putObj' _ D (.deferred none)) (fun r e => by cases e; exact ⟨_, hKU, rfl⟩) k5 rfl).trans k5
      have g6 := g4.c0
      have g7 := g4.c1
      have g8 := g5.c0
      have g9 := g5.c1
      refine ⟨.tuple #[.agg #[.int .u64 (hi q), .int .u64 (lo q)], .agg #[.int .u64 (hi r), .int .u64 (lo r)]], ?_, rfl, Below.trans hBU (belowK_b (w := w) (Nat.le_refl _) U D _ _ (by omega) hKU rfl rfl)⟩
      simp [results, Try.results196, go_sem, g6, g7, g8, g9]
    case stopA =>
      rintro D c pre W _ _ h _
      exact h.elim
  · gi_wp2_with (refine ⟨trivial, ?_⟩; gi_at_call 225; refine (callsIn_wide.2 (ddown b _)).mono ?_; rintro e w' ⟨rfl, rfl⟩)
    rw [← hW0]
    obtain ⟨V, hV⟩ : ∃ V, V = W0.alloc (.cells #[.int .u64 (hi b), .int .u64 (lo b)] 213) := ⟨_, rfl⟩
    have hX : Box2 V (w.heap.size + 1 + 1 + 1 + 1 + 1 + 1) (.int .u64 (hi b)) (.int .u64 (lo b)) 213 := by rw [hV]; exact Box2.new (by rw [hW0]; simp)
    have hD : Box2 V (w.heap.size + 1) (.int .u64 (hi d)) (.int .u64 (lo d)) 213 := by rw [hV, hW0]; exact (((((Box2.new (by simp)).alloc _).alloc _).alloc _).alloc _).alloc _
    have h4 : Box2 V (w.heap.size + 1 + 1) (.int .u64 0) (.int .u64 0) 213 := by rw [hV, hW0]; exact ((((Box2.new (by simp)).alloc _).alloc _).alloc _).alloc _
    have h5 : Box2 V (w.heap.size + 1 + 1 + 1) (.int .u64 0) (.int .u64 0) 213 := by rw [hV, hW0]; exact (((Box2.new (by simp)).alloc _).alloc _).alloc _
    have hQ : Box2 V (w.heap.size + 1 + 1 + 1 + 1) (.int .u64 0) (.int .u64 0) 213 := by rw [hV, hW0]; exact ((Box2.new (by simp)).alloc _).alloc _
    have hR : Box2 V (w.heap.size + 1 + 1 + 1 + 1 + 1) (.int .u64 0) (.int .u64 0) 213 := by rw [hV, hW0]; exact (Box2.new (by simp)).alloc _
    have xw : Ext w V := by rw [hV, hW0]; exact (Ext.refl w).alloc.alloc.alloc.alloc.alloc.alloc.alloc
    have sV : V.heap.size = w.heap.size + 7 := by rw [hV, hW0]; simp
    try rw [hW0, ← hV]
    try rw [← hV]
    clear hV hW0 W0
    refine wpIn_rangeFunc_ownF rfl (by omega) (gf := 228) (lb := #[.pointer (some ⟨w.heap.size + 1 + 1 + 1 + 1 + 1 + 1, 0, none⟩)]) rfl trivial (enters_of Try.func228 (by kernel_rfl) rfl)
      (down_stops (w.heap.size + 1 + 1 + 1 + 1 + 1 + 1) b HB.out V hX) (fun h k => k.trans h)
      (fun W l o o' hl h _ _ => (grownBy_putObj' W l o').block _ (by have := (Array.getElem?_eq_some_iff.1 h).1; omega) (fun e => by cases e; omega)) (Below.refl _ _) (fun _ => rfl)
      (fun pre W => OverI w b d pre W ∧ Below w.heap.size w W)
      (fun _ _ _ => False)
      (OwnFrom.and (Own.from (overI_own w b d) _) (ownFrom_below (Nat.le_refl _) (by rw [sV]; omega)))
      (fun _ _ _ _ _ hs _ _ => hs)
      ⟨overI_nil hQ hR hD h4 h5 hX, xw⟩ ?actB ?assignB ?bodyB ?doneB ?stopB
    case assignB =>
      intro l x W K hK
      gi_wp2
      exact hK
    case bodyB =>
      rintro l pre x W ⟨hJ, hBl⟩ hlt
      have hx := x.2
      obtain ⟨P0, P1⟩ := valB_pre hlt
      obtain ⟨r0, r1, q0, q1, hST⟩ := over_step (x := x.1) HD0.out HD1.out P0 P1 hx
      have HN := Lib.hid (valB_snoc pre x)
      have HST := Lib.hid hST
      have hXX : W.heap[w.heap.size + 1 + 1 + 1 + 1 + 1 + 1]? = _ := hJ.2.2.2.2.2
      clear hST P0 P1
      unfold OverI at hJ
      generalize valB pre / d = q at *
      generalize valB pre % d = r at *
      generalize x.1 = v at *
      have E1 := Lib.hid (twice_hi r0 hx r1)
      have E2 := Lib.hid (twice_lo r hx)
      have E3 := Lib.hid (twice_hi (x := 0) q0 (.inl rfl) (by omega))
      have E4 := Lib.hid (twice_low q)
      have E5 := Lib.hid (twice_odd q)
      have A1 := Lib.hid r1
      clear r1 q1 q0 r0 hx
      obtain ⟨hQ, hR, hD, h45⟩ := hJ
      have hQ_0 := hQ.c0; have hQ_1 := hQ.c1; have hR_0 := hR.c0; have hR_1 := hR.c1; have hD_0 := hD.c0; have hD_1 := hD.c1
      have hQ_2 := hQ.f0; have hQ_3 := hQ.f1; have hR_2 := hR.f0; have hR_3 := hR.f1
      gi_wp2
      clear hQ_0 hQ_1 hR_0 hR_1 hD_0 hD_1
      clear hQ_2 hQ_3 hR_2 hR_3
      rw [E1.out, E2.out, E3.out, E4.out, Int.add_zero]
      obtain ⟨W2, hW2⟩ : ∃ W2, W2 = (((W.setCell ⟨w.heap.size + 1 + 1 + 1 + 1 + 1, 0, none⟩ (.int .u64 (hi (2 * r + v)))).setCell ⟨w.heap.size + 1 + 1 + 1 + 1 + 1, 1, none⟩ (.int .u64 (lo (2 * r + v)))).setCell ⟨w.heap.size + 1 + 1 + 1 + 1, 0, none⟩ (.int .u64 (hi (2 * q)))).setCell ⟨w.heap.size + 1 + 1 + 1 + 1, 1, none⟩ (.int .u64 (lo (2 * q))) := ⟨_, rfl⟩
      rw [← hW2]
      have hJ : OverJ w b d (2 * q) (2 * r + v) W2 := by rw [hW2]; exact (OverJ.setR ⟨hQ, hR, hD, h45⟩ _).setQ _
      have hKO : KeepsOthers W W2 := by rw [hW2]; exact (((KeepsOthers.setCell _ _ _).trans (KeepsOthers.setCell _ _ _)).trans (KeepsOthers.setCell _ _ _)).trans (KeepsOthers.setCell _ _ _)
      replace hBl : Below w.heap.size w W2 := by rw [hW2]; exact below_set2 (below_set2 hBl (by omega) _ _) (by omega) _ _
      clear hW2 hQ hR hD h45
      refine ⟨trivial, (CallsIn.inRound l (callsIn_wide.2 (dless (2 * r + v) d W2))).mono ?_⟩
      rintro e w3 ⟨rfl, rfl⟩
      obtain ⟨W3, hW3⟩ : ∃ W3, W3 = (W2.alloc (.cells #[.int .u64 (hi (2 * r + v)), .int .u64 (lo (2 * r + v))] 213)).alloc (.cells #[.int .u64 (hi d), .int .u64 (lo d)] 213) := ⟨_, rfl⟩
      rw [← hW3]
      replace hJ : OverJ w b d (2 * q) (2 * r + v) W3 := by rw [hW3]; exact (hJ.alloc _).alloc _
      replace hKO : KeepsOthers W W3 := by rw [hW3]; exact (hKO.trans (KeepsOthers.alloc _ _)).trans (KeepsOthers.alloc _ _)
      replace hBl : Below w.heap.size w W3 := by rw [hW3]; exact (hBl.alloc hBl.size _).alloc (Nat.le_trans hBl.size (by simp)) _
      clear hW3
      by_cases hl : 2 * r + v < d
      · rw [decide_eq_true hl]
        gi_wp2
        have hst := HST.out
        rw [if_pos hl, ← HN.out] at hst
        refine ⟨hKO, hJ.2.2.2.2.2.trans hXX.symm, ?_, hBl⟩
        unfold OverI
        rw [hst.1, hst.2]
        exact hJ
      · rw [decide_eq_false hl]
        obtain ⟨hQ, hR, hD, h45⟩ := hJ
        have hQ_0 := hQ.c0; have hQ_1 := hQ.c1; have hR_0 := hR.c0; have hR_1 := hR.c1; have hD_0 := hD.c0; have hD_1 := hD.c1
        have hQ_2 := hQ.f0; have hQ_3 := hQ.f1; have hR_2 := hR.f0; have hR_3 := hR.f1
        have r102 := run_sub64'
        obtain ⟨l0, l1⟩ := lo_bd (2 * r + v)
        obtain ⟨l2, l3⟩ := lo_bd d
        obtain ⟨m0, m1, m2, m3⟩ := hi_pair HD1.out A1.out hl HD0.out
        have c0 : 0 ≤ bor (lo (2 * r + v)) (lo d) 0 := by rw [bor_def]; omega
        have c1 : bor (lo (2 * r + v)) (lo d) 0 ≤ 1 := by rw [bor_def]; omega
        gi_wp2
        refine ⟨trivial, ?_⟩
        gi_wp2
        refine ⟨trivial, ?_⟩
        gi_wp2
        clear r102
        rw [sub_hi _ _ m0 m1 m2 m3 (by omega), ← lo_sub, E5.out]
        have hst := HST.out
        rw [if_neg (by omega), ← HN.out] at hst
        have hJ' := (OverJ.setR ⟨hQ, hR, hD, h45⟩ (2 * r + v - d)).odd
        refine ⟨((hKO.trans (KeepsOthers.setCell _ _ _)).trans (KeepsOthers.setCell _ _ _)).trans (KeepsOthers.setCell _ _ _), hJ'.2.2.2.2.2.trans hXX.symm, ?_, (below_set2 hBl (by omega) _ _).setCell (p := ⟨_, 1, none⟩) (by simp; omega) _⟩
        unfold OverI
        rw [hst.1, hst.2]
        exact hJ'
    case doneB =>
      rintro D ys W hD' rfl ⟨⟨hQ, hR, hD, h4, h5, hX⟩, hBl⟩ hK
      rw [valB_all HB.out] at hQ hR
      generalize b / d = q at *
      generalize b % d = r at *
      have hQ_0 := hQ.c0; have hQ_1 := hQ.c1; have hR_0 := hR.c0; have hR_1 := hR.c1; have h4_0 := h4.c0; have h4_1 := h4.c1; have h5_0 := h5.c0; have h5_1 := h5.c1
      have hQ_2 := hQ.f0; have hQ_3 := hQ.f1; have hR_2 := hR.f0; have hR_3 := hR.f1; have h4_2 := h4.f0; have h4_3 := h4.f1; have h5_2 := h5.f0; have h5_3 := h5.f1
      gi_wp2
      gi_region
      gi_wp2
      obtain ⟨U, hU⟩ : ∃ U, U = ((((W.setCell ⟨w.heap.size + 1 + 1, 0, none⟩ (.int .u64 (hi q))).setCell ⟨w.heap.size + 1 + 1, 1, none⟩ (.int .u64 (lo q))).setCell ⟨w.heap.size + 1 + 1 + 1, 0, none⟩ (.int .u64 (hi r))).setCell ⟨w.heap.size + 1 + 1 + 1, 1, none⟩ (.int .u64 (lo r))).drew := ⟨_, rfl⟩
      rw [← hU]
      have k4 : Box2 U (w.heap.size + 1 + 1) (.int .u64 (hi q)) (.int .u64 (lo q)) 213 := by rw [hU]; exact ((h4.set _ _).other2 (by omega) _ _).drew
      have k5 : Box2 U (w.heap.size + 1 + 1 + 1) (.int .u64 (hi r)) (.int .u64 (lo r)) 213 := by rw [hU]; exact ((h5.other2 (by omega) _ _).set _ _).drew
      have hKU : U.heap[D]? = some (.deferred (some [])) := by
        rw [hU]
        exact (((((KeepsOthers.setCell _ _ _).trans (KeepsOthers.setCell _ _ _)).trans (KeepsOthers.setCell _ _ _)).trans (KeepsOthers.setCell _ _ _)).trans (KeepsOthers.drew _)).same D _ hK rfl
      have hBU : Ext w U := by rw [hU]; exact Ext.drew (below_set2 (below_set2 hBl (by omega) _ _) (by omega) _ _)
      clear hU
      refine ⟨by simp, .inl ⟨_, _, rfl, run_takeDeferred hKU, ?_⟩⟩
      have g4 : Box2 (U.putObj D (.deferred none)) (w.heap.size + 1 + 1) (.int .u64 (hi q)) (.int .u64 (lo q)) 213 := (grownBy_keeps_cells (grownBy_putObj' _ D (.deferred none)) (fun r e => by cases e; exact ⟨_, hKU, rfl⟩) k4 rfl).trans k4
      have g5 : Box2 (U.putObj D (.deferred none)) (w.heap.size + 1 + 1 + 1) (.int .u64 (hi r)) (.int .u64 (lo r)) 213 := (grownBy_keeps_cells (grownBy_putObj' _ D (.deferred none)) (fun r e => by cases e; exact ⟨_, hKU, rfl⟩) k5 rfl).trans k5
      have g6 := g4.c0
      have g7 := g4.c1
      have g8 := g5.c0
      have g9 := g5.c1
      refine ⟨.tuple #[.agg #[.int .u64 (hi q), .int .u64 (lo q)], .agg #[.int .u64 (hi r), .int .u64 (lo r)]], ?_, rfl, Below.trans hBU (belowK_b (w := w) (Nat.le_refl _) U D _ _ (by omega) hKU rfl rfl)⟩
      simp [results, Try.results196, go_sem, g6, g7, g8, g9]
    case stopB =>
      rintro D c pre W _ _ h _
      exact h.elim
end Go.Proofs.Ytcndfpfjckkinaa

/-
  divide.over for every divisor; Trunc and Floor for every two numbers.
-/
namespace Go.Proofs.Ytcndfpfjckkinaa
open Go Go.RowKit

theorem over_any {b d : Int} (hb : U128 b) (d0 : 0 < d) (d1 : d ≤ 170141183460469231731687303715884105728) : OverC b d := by
  intro w
  by_cases h : d < 18446744073709551616
  · exact over_small b d w hb d0 h
  · exact over_great b d w hb (by omega) d1
theorem magW_le {n : Int} (h : W128 n) : mag n ≤ 170141183460469231731687303715884105728 := by unfold W128 at h; unfold mag; split <;> omega
theorem trunc_any {a b : Int} (ha : W128 a) (hb : W128 b) (h0 : b ≠ 0) : Trunc3 a b := fun w =>
  dtrunc a b w ha hb h0 (over_any (mag_U ha) (mag_zero h0) (magW_le hb))
theorem overTo_all {M : Nat} (h : M ≤ 170141183460469231731687303715884105728) : OverTo M := fun b d hb d0 hd =>
  over_any (by unfold U128; omega) (by omega) (by omega)
/-- A quotient and a rest, or none: by 0, or where there is no room. -/
def z0 (b x : Int) : Int := if b = 0 then 0 else x
def er (b q : Int) : Int := if b = 0 then 3 else ter q
def RetF (w : World) (b q r : Int) (e : Ending) (w' : World) : Prop :=
  e = .returned (.tuple #[.agg #[.int .i64 (z0 b (thi q)), .int .u64 (z0 b (tlo q))], .agg #[.int .i64 (z0 b (qh q r)), .int .u64 (z0 b (ql q r))], .int .i64 (er b q)]) ∧ Ext w w'
theorem retF_q {w w' : World} {b q r : Int} {e : Ending} (h0 : b ≠ 0) (h : RetQ w q r e w') : RetF w b q r e w' := by
  unfold RetF z0 er
  simp only [if_neg h0]
  exact h
theorem retF_0 {w w' : World} {q r : Int} (x : Ext w w') : RetF w 0 q r (.returned (.tuple #[.agg #[.int .i64 0, .int .u64 0], .agg #[.int .i64 0, .int .u64 0], .int .i64 3])) w' := by
  unfold RetF z0 er
  refine ⟨?_, x⟩
  rfl
set_option maxRecDepth 100000 in
set_option maxHeartbeats 1600000 in
theorem dtrunc0 (a : Int) (w : World) (q r : Int) :
    Calls Try.prog 135 #[.agg #[.int .i64 (hi a), .int .u64 (lo a)], .agg #[.int .i64 0, .int .u64 0]] w (RetF w 0 q r) := by
  go_enter Try.func135, Try.ntmps135
  go_wp2_with fail
  refine bodyPost_ret (v := .tuple #[.agg #[.int .i64 0, .int .u64 0], .agg #[.int .i64 0, .int .u64 0], .int .i64 3]) (by simp [results, Try.results135, go_sem]) rfl (retF_0 (by repeat (first | exact Ext.refl _ | refine Ext.alloc ?_ | refine Ext.drew ?_ | refine Ext.drewN ?_ | refine Ext.set ?_ (Ext.size ?_) | refine Ext.set ?_ (Ext.size1 ?_) | refine Ext.set ?_ (Ext.size2 ?_) | refine Ext.trans ?_ (by assumption))))
set_option maxRecDepth 100000 in
set_option maxHeartbeats 1600000 in
theorem dfloor0 (a : Int) (w : World) (q r : Int) :
    Calls Try.prog 178 #[.agg #[.int .i64 (hi a), .int .u64 (lo a)], .agg #[.int .i64 0, .int .u64 0]] w (RetF w 0 q r) := by
  have H1 := Lib.hid dtrunc0
  go_enter Try.func178, Try.ntmps178
  go_wp2_with fail
  obtain ⟨W, hW⟩ : ∃ W, W = (((w.alloc (.cells #[.int .i64 (hi a), .int .u64 (lo a)] 38)).alloc (.cells #[.int .i64 0, .int .u64 0] 38)).alloc (.cells #[.int .i64 0, .int .u64 0] 38)).alloc (.cells #[.int .i64 0, .int .u64 0] 38) := ⟨_, rfl⟩
  rw [← hW]
  have hR : Box2 W (w.heap.size + 1 + 1) (.int .i64 0) (.int .u64 0) 38 := by rw [hW]; exact (Box2.new (by simp)).alloc _
  have hS : Box2 W (w.heap.size + 1 + 1 + 1) (.int .i64 0) (.int .u64 0) 38 := by rw [hW]; exact Box2.new (by simp)
  have xw : Ext w W := by rw [hW]; exact (Ext.refl w).alloc.alloc.alloc.alloc
  clear hW
  refine (H1.out a _ q r).mono ?_
  rintro e w1 ⟨rfl, x1⟩
  (first | replace xw := Ext.trans xw x1 | replace xw := Ext.trans (Ext.alloc xw) x1 | replace xw := Ext.trans (Ext.drew xw) x1 | replace xw := Ext.trans (Ext.alloc (Ext.drew xw)) x1); (first | replace hR := hR.ext x1 | replace hR := (hR.alloc _).ext x1 | replace hR := hR.drew.ext x1 | replace hR := (hR.drew.alloc _).ext x1); (first | replace hS := hS.ext x1 | replace hS := (hS.alloc _).ext x1 | replace hS := hS.drew.ext x1 | replace hS := (hS.drew.alloc _).ext x1)
  replace hR := (hR.alloc (.cells #[.int .i64 0, .int .u64 0] 38)).alloc (.cells #[.int .i64 0, .int .u64 0] 38)
  replace hS := (hS.alloc (.cells #[.int .i64 0, .int .u64 0] 38)).alloc (.cells #[.int .i64 0, .int .u64 0] 38)
  have g1 : z0 0 (thi q) = 0 := rfl
  have g2 : z0 0 (tlo q) = 0 := rfl
  have g3 : z0 0 (qh q r) = 0 := rfl
  have g4 : z0 0 (ql q r) = 0 := rfl
  have g5 : er 0 q = 3 := rfl
  rw [g1, g2, g3, g4, g5]
  have hR_0 := hR.c0; have hR_1 := hR.c1; have hS_0 := hS.c0; have hS_1 := hS.c1
  have hR_2 := hR.f0; have hR_3 := hR.f1; have hS_2 := hS.f0; have hS_3 := hS.f1
  go_wp2_with fail
  refine bodyPost_ret (v := .tuple #[.agg #[.int .i64 0, .int .u64 0], .agg #[.int .i64 0, .int .u64 0], .int .i64 3]) (by simp [results, Try.results178, go_sem, hR_0, hR_1, hS_0, hS_1]) rfl (retF_0 ?_)
  exact Ext.set (Ext.set (Ext.set (Ext.set (Ext.alloc (Ext.alloc xw)) (by omega)) (by omega)) (by omega)) (by omega)
theorem dtrunc_any (a b : Int) (w : World) (ha : W128 a) (hb : W128 b) :
    Calls Try.prog 135 #[.agg #[.int .i64 (hi a), .int .u64 (lo a)], .agg #[.int .i64 (hi b), .int .u64 (lo b)]] w (RetF w b (a.tdiv b) (a.tmod b)) := by
  by_cases h0 : b = 0
  · subst h0; exact dtrunc0 a w _ _
  · exact (trunc_any ha hb h0 w).mono fun e w' h => retF_q h0 h
theorem dfloor_any (a b : Int) (w : World) (ha : W128 a) (hb : W128 b) :
    Calls Try.prog 178 #[.agg #[.int .i64 (hi a), .int .u64 (lo a)], .agg #[.int .i64 (hi b), .int .u64 (lo b)]] w (RetF w b (a.fdiv b) (a.fmod b)) := by
  by_cases h0 : b = 0
  · subst h0; exact dfloor0 a w _ _
  · exact (dfloor a b w ha hb h0 (trunc_any ha hb h0)).mono fun e w' h => retF_q h0 h
end Go.Proofs.Ytcndfpfjckkinaa

/-
  The reference's Trunc of layer 3 at a divisor of 0.
-/
namespace Go.Proofs.Ytcndfpfjckkinaa
open Go Go.RowKit

end Go.Proofs.Ytcndfpfjckkinaa

/-
  Small laws for the walks: a world gets a name; how great quotients and rests are.
-/
namespace Go.Proofs.Ytcndfpfjckkinaa
open Go Go.RowKit

theorem wp_name {P : Program} {c : Code} {Q : Exit → Act → World → Prop} {a : Act} {w : World} (h : ∀ V, V = w → c.wp P Q a V) : c.wp P Q a w := h w rfl
theorem fmod_lt {a b : Int} (h0 : b ≠ 0) : (a.fmod b).natAbs < b.natAbs := by
  by_cases h : 0 < b
  · have h1 := Int.fmod_eq_emod_of_nonneg a (show 0 ≤ b by omega)
    have := Int.emod_nonneg a h0
    have := Int.emod_lt_of_pos a h
    omega
  · obtain ⟨k1, k2, k3⟩ := tdm (a := a) h0
    by_cases hs : a.tmod b = 0 ∨ (a.tmod b < 0 ↔ b < 0)
    · rw [(floor_same h0 hs).2]; omega
    · rw [(floor_less h0 (fun e => hs (Or.inl e)) (fun e => hs (Or.inr e))).2]; omega
theorem fmod_b {K : Nat} {a b : Int} (h : Bits K b) (h0 : b ≠ 0) : Bits K (a.fmod b) := by
  have := fmod_lt (a := a) h0
  exact h.le (by omega)
theorem fdiv_le {a b : Int} (h0 : b ≠ 0) : (a.fdiv b).natAbs ≤ a.natAbs + 1 := by
  have e := tdiv_nat (a := a) (b := b)
  have h1 : a.natAbs / b.natAbs ≤ a.natAbs := Nat.div_le_self _ _
  by_cases hs : a.tmod b = 0 ∨ (a.tmod b < 0 ↔ b < 0)
  · rw [(floor_same h0 hs).1]; omega
  · rw [(floor_less h0 (fun e => hs (Or.inl e)) (fun e => hs (Or.inr e))).1]; omega
theorem fdiv_b {K : Nat} {a b : Int} (h : Bits K a) (h0 : b ≠ 0) : Bits (K + 1) (a.fdiv b) := by
  have h1 := fdiv_le (a := a) h0
  have h2 : 0 < 2 ^ K := Nat.two_pow_pos K
  unfold Bits at *
  rw [Nat.pow_succ]; omega
end Go.Proofs.Ytcndfpfjckkinaa
