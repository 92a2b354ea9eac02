/-
  Texts joined: Gg, Gh, Bx, Cka, Ckf, Pla, Dur, Fw, Fx, Civ, Duc, Btw, Btt, Dud, Duz, Duzp, Duzn. Each says at its head what it shows.
-/
import Derived.RangeFuncNested
import Derived.RangeFuncBound
import Derived.RangeFuncCalls
import Derived.RangeFuncLeaves
import Derived.Shelf.Abstract
import Derived.Shelf.RegionOpen
import Derived.OwnWalkIn
import Derived.TacticsInMore
import Derived.LoopNIn
import Derived.LoopIn
import Derived.RangeFuncFrom
import Derived.Test.YtcndfpfjckkinaaDb
section
/-
  divide.bare.down: the iterator over a number's bits, the highest one first: its contract for a range over a function.
-/
namespace Go.Proofs.Ytcndfpfjckkinaa
open Go Go.RowKit Go.Shelf
attribute [local go_sem] Oper.semAt_some

/-- A bit. -/
abbrev Bit := { x : Int // x = 0 ∨ x = 1 }
def bitAt (b : Int) (i : Nat) : Bit := ⟨shr b i % 2, by omega⟩
/-- The bits that have come when k rounds are over. -/
def bitsOf (b : Int) (k : Nat) : List Bit := (List.range k).map fun j => bitAt b (127 - j)
theorem bitsOf_succ (b : Int) (k : Nat) : bitsOf b (k + 1) = bitsOf b k ++ [bitAt b (127 - k)] := by simp [bitsOf, List.range_succ]

theorem and_one (x : Int) (h0 : 0 ≤ x) (h1 : x < 18446744073709551616) : bits .and .u64 x 1 = x % 2 := by
  obtain ⟨X, rfl⟩ := Int.eq_ofNat_of_zero_le h0
  have h := bits_and_u64_nat X 1 (by omega) (by omega)
  have e : X &&& 1 = X % 2 := Nat.and_two_pow_sub_one_eq_mod X 1
  rw [e] at h
  exact h
theorem shr_lt {x : Int} (h0 : 0 ≤ x) (h1 : x < 18446744073709551616) (s : Nat) : 0 ≤ x / 2 ^ s ∧ x / 2 ^ s < 18446744073709551616 := by
  have := shr_nonneg h0 s
  have := shr_le h0 s
  rw [shr_pow] at *
  omega
theorem bit_hi {b : Int} (hb : U128 b) {k : Nat} (hk : k ≤ 63) : bits .and .u64 (hi b / 2 ^ ((127 - k) % 64)) 1 = (bitAt b (127 - k)).1 := by
  obtain ⟨a2, a3⟩ := hi_U hb
  obtain ⟨c0, c1⟩ := shr_lt a2 a3 ((127 - k) % 64)
  rw [and_one _ c0 c1]
  show _ = shr b (127 - k) % 2
  rw [show 127 - k = 64 + (127 - k) % 64 by omega, shr_add, shr_pow, shr_pow, show (64 + (127 - k) % 64) % 64 = (127 - k) % 64 by omega]
  rfl
theorem lo_bit (b : Int) {s : Nat} (hs : s ≤ 63) : lo b / 2 ^ s % 2 = shr b s % 2 := by
  rw [shr_pow]
  unfold lo
  have e : (18446744073709551616 : Int) = 2 ^ s * (2 * 2 ^ (63 - s)) := by
    rw [show (2 : Int) * 2 ^ (63 - s) = 2 ^ (64 - s) by rw [show 64 - s = (63 - s) + 1 by omega, Int.pow_succ, Int.mul_comm], ← Int.pow_add, show s + (64 - s) = 64 by omega]; rfl
  have hp : (0 : Int) < 2 ^ s := Int.pow_pos (by omega)
  have h1 : b % 18446744073709551616 = b - 18446744073709551616 * (b / 18446744073709551616) := by omega
  rw [h1]
  generalize b / 18446744073709551616 = c
  have h2 : b - 18446744073709551616 * c = b + 2 ^ s * (-(2 * 2 ^ (63 - s) * c)) := by
    conv => lhs; rw [e]
    rw [Int.mul_neg, Int.mul_assoc (2 ^ s)]; rfl
  rw [h2, Int.add_mul_ediv_left _ _ (by omega), Int.mul_assoc]
  generalize 2 ^ (63 - s) * c = d
  generalize b / 2 ^ s = f
  omega
theorem bit_lo {b : Int} {k : Nat} (hk : 64 ≤ k) (hk2 : k ≤ 127) : bits .and .u64 (lo b / 2 ^ ((127 - k) % 64)) 1 = (bitAt b (127 - k)).1 := by
  obtain ⟨a2, a3⟩ := lo_bd b
  obtain ⟨c0, c1⟩ := shr_lt a2 a3 ((127 - k) % 64)
  rw [and_one _ c0 c1, lo_bit _ (by omega)]
  show _ = shr b (127 - k) % 2
  rw [show (127 - k) % 64 = 127 - k by omega]

set_option maxRecDepth 100000 in
set_option maxHeartbeats 1600000 in
theorem down_in (l Bn : Nat) (b : Int) (hb : U128 b) (J Jx : List Bit → World → Prop)
    (hY : ∀ pre (x : Bit) W, J pre W → pre.length < 128 → YieldAt Fence.wide 8 Try.prog l #[.int .u64 x.1] W fun e W' =>
      (e = .returned (.bool true) ∧ J (pre ++ [x]) W' ∧ W'.heap[Bn]? = W.heap[Bn]?) ∨ (e = .returned (.bool false) ∧ Jx (pre ++ [x]) W'))
    (W : World) (hB : Box2 W Bn (.int .u64 (hi b)) (.int .u64 (lo b)) 213) (h0 : J [] W) :
    CallsIn Fence.wide 9 Try.prog 228 #[.func (.yield l) #[] #[], .pointer (some ⟨Bn, 0, none⟩)] W fun e W' => (∃ v, e = .returned v) ∧
      ((∃ ys, ys = bitsOf b 128 ∧ J ys W') ∨ (∃ pre, pre.length ≤ 128 ∧ Jx pre W')) := by
  obtain ⟨a0, a1⟩ := lo_bd b
  obtain ⟨a2, a3⟩ := hi_U hb
  refine callsIn_of_wp Try.func228 rfl trivial ?_ rfl
  simp only [Try.ntmps228, List.size_toArray, List.length_cons, List.length_nil, Nat.reduceAdd, Nat.reduceSub, Array.replicate_succ, Array.replicate_zero, List.push_toArray, List.append_toArray, List.nil_append, List.cons_append]
  gi_wp2
  gi_loopw [3, 4] (fun p q wr => ∃ k : Nat, k ≤ 128 ∧ p = .int .i64 (127 - k) ∧ Box2 wr Bn (.int .u64 (hi b)) (.int .u64 (lo b)) 213 ∧ J (bitsOf b k) wr)
    (fun p q wr => (intOf p + 1).toNat)
  case atStart =>
    exact ⟨0, by omega, rfl, hB, h0⟩
  case round =>
    obtain ⟨k, hk, rfl, hBr, hJ⟩ := hrel
    have hc0 := hBr.c0
    have hc1 := hBr.c1
    by_cases hk8 : k = 128
    · subst hk8
      gi_wp2
      go_end0
      exact ⟨⟨_, rfl⟩, .inl ⟨_, rfl, hJ⟩⟩
    · obtain ⟨fn, tmps, assign, body, hy, hR⟩ := hY (bitsOf b k) (bitAt b (127 - k)) wr hJ (by simp [bitsOf]; omega)
      by_cases hk6 : k ≤ 63
      · rw [← bit_hi hb hk6] at hy
        gi_wp2
        refine hR.mono ?_
        rintro e W3 (⟨rfl, hJ3, hk3⟩ | ⟨rfl, hJx3⟩)
        · gi_wp2
          go_roundw
          case rel => exact ⟨k + 1, by omega, by congr 1; omega, hk3.trans hBr, by rw [bitsOf_succ]; exact hJ3⟩
          case measure => simp [intOf]; omega
        · gi_wp2
          refine bodyPost_ret (results_none rfl _ _ _) rfl ?_
          exact ⟨⟨_, rfl⟩, .inr ⟨bitsOf b k ++ [bitAt b (127 - k)], by simp [bitsOf]; omega, hJx3⟩⟩
      · rw [← bit_lo (show 64 ≤ k by omega) (show k ≤ 127 by omega)] at hy
        gi_wp2
        refine hR.mono ?_
        rintro e W3 (⟨rfl, hJ3, hk3⟩ | ⟨rfl, hJx3⟩)
        · gi_wp2
          go_roundw
          case rel => exact ⟨k + 1, by omega, by congr 1; omega, hk3.trans hBr, by rw [bitsOf_succ]; exact hJ3⟩
          case measure => simp [intOf]; omega
        · gi_wp2
          refine bodyPost_ret (results_none rfl _ _ _) rfl ?_
          exact ⟨⟨_, rfl⟩, .inr ⟨bitsOf b k ++ [bitAt b (127 - k)], by simp [bitsOf]; omega, hJx3⟩⟩
/-- The iterator's contract: it reads its own box alone. -/
theorem down_stops (Bn : Nat) (b : Int) (hb : U128 b) (w : World) (hB : Box2 w Bn (.int .u64 (hi b)) (.int .u64 (lo b)) 213) :
    SeqStopsK Fence.wide 9 Try.prog 228 #[.pointer (some ⟨Bn, 0, none⟩)] (fun x : Bit => #[Value.int .u64 x.1]) (fun W W' => W'.heap[Bn]? = W.heap[Bn]?) (fun ys => ys = bitsOf b 128) (fun pre => pre.length ≤ 128) 128 w := fun l J Jx W hW _ _ hY h0 =>
  down_in l Bn b hb J Jx hY W (hB.below hW) h0
end Go.Proofs.Ytcndfpfjckkinaa

/-
  divide.bare: less, down.
-/
namespace Go.Proofs.Ytcndfpfjckkinaa
open Go Go.RowKit

theorem lt_hl (x y : Int) : (decide (hi x < hi y) || (hi x == hi y && decide (lo x < lo y))) = decide (x < y) := by
  have e1 := hi_lo x
  have e2 := hi_lo y
  have l1 := lo_bd x
  have l2 := lo_bd y
  rw [Bool.eq_iff_iff]
  simp only [Bool.or_eq_true, Bool.and_eq_true, decide_eq_true_eq, beq_iff_eq]
  generalize hi x = X at *
  generalize hi y = Y at *
  generalize lo x = x0 at *
  generalize lo y = y0 at *
  omega
set_option maxRecDepth 100000 in
set_option maxHeartbeats 1600000 in
theorem dless (x y : Int) (w : World) :
    Calls Try.prog 226 #[.agg #[.int .u64 (hi x), .int .u64 (lo x)], .agg #[.int .u64 (hi y), .int .u64 (lo y)]] w (fun e w' => e = .returned (.bool (decide (x < y))) ∧ w' = (w.alloc (.cells #[.int .u64 (hi x), .int .u64 (lo x)] 213)).alloc (.cells #[.int .u64 (hi y), .int .u64 (lo y)] 213)) := by
  have HE := Lib.hid (lt_hl x y)
  go_enter Try.func226, Try.ntmps226
  go_wp2
  all_goals
    have he := HE.out
    clear HE
    go_ret
    refine ⟨?_, by simp_all⟩
    rw [← he]
    clear he
    simp_all
set_option maxRecDepth 100000 in
set_option maxHeartbeats 1600000 in
theorem ddown (b : Int) (w : World) :
    Calls Try.prog 225 #[.agg #[.int .u64 (hi b), .int .u64 (lo b)]] w (fun e w' => e = .returned (.func (.func 228) #[] #[.pointer (some ⟨w.heap.size, 0, none⟩)]) ∧ w' = w.alloc (.cells #[.int .u64 (hi b), .int .u64 (lo b)] 213)) := by
  go_enter Try.func225, Try.ntmps225
  go_wp2
  go_ret
  exact ⟨rfl, rfl⟩
end Go.Proofs.Ytcndfpfjckkinaa

/-
  divide.bare.over by a number of more than 64 bits: the range over a number's bits.
-/
namespace Go.Proofs.Ytcndfpfjckkinaa
open Go Go.RowKit Go.Shelf
attribute [local go_sem] Oper.semAt_some

def valB (xs : List Bit) : Int := xs.foldl (fun v x => 2 * v + x.1) 0
theorem valB_snoc (xs : List Bit) (x : Bit) : valB (xs ++ [x]) = 2 * valB xs + x.1 := by simp [valB]
theorem fold_lt (xs : List Bit) (v : Int) (h0 : 0 ≤ v) (m : Nat) (h1 : v < 2 ^ m) : 0 ≤ xs.foldl (fun v x => 2 * v + x.1) v ∧ xs.foldl (fun v x => 2 * v + x.1) v < 2 ^ (m + xs.length) := by
  induction xs generalizing v m with
  | nil => exact ⟨h0, h1⟩
  | cons x xs ih =>
    have := x.2
    have h := ih (2 * v + x.1) (by omega) (m + 1) (by rw [Int.pow_succ]; omega)
    rw [show m + 1 + xs.length = m + (x :: xs).length by simp; omega] at h
    exact h
theorem valB_lt (xs : List Bit) : 0 ≤ valB xs ∧ valB xs < 2 ^ xs.length := by
  have h := fold_lt xs 0 (by omega) 0 (by decide)
  rw [Nat.zero_add] at h
  exact h
theorem valB_bits {b : Int} (hb : U128 b) (k : Nat) (hk : k ≤ 128) : valB (bitsOf b k) = shr b (128 - k) := by
  induction k with
  | zero =>
    show (0 : Int) = shr b 128
    rw [shr_top hb.1]
    exact hb.2
  | succ k ih =>
    rw [bitsOf_succ, valB_snoc, ih (by omega)]
    show 2 * _ + shr b (127 - k) % 2 = _
    have e := shr_succ b (127 - k)
    rw [show 128 - k = 127 - k + 1 by omega, e, show 128 - (k + 1) = 127 - k by omega]
    omega
theorem valB_all {b : Int} (hb : U128 b) : valB (bitsOf b 128) = b := by rw [valB_bits hb 128 (by omega)]; exact shr_zero b

/-- A block of two cells, of what has come. -/
theorem box_own {β : Type} (k : Nat) (t : TypeId) (f g : β → Value) : Go.Own (fun s W => Box2 W k (f s) (g s) t) := fun _ _ _ _ hs hg hr =>
  (grownBy_keeps_cells hg hr hs rfl).trans hs

theorem twice_hi {r x : Int} (r0 : 0 ≤ r) (hx : x = 0 ∨ x = 1) (h : 2 * r + x < 340282366920938463463374607431768211456) : bits .or .u64 (IntKind.u64.wrap (hi r * 2)) (lo r / 9223372036854775808) = hi (2 * r + x) := by
  have e := or_add (hi r) (lo r / 9223372036854775808) 1
  rw [show (2 : Int) ^ 1 = 2 from rfl] at e
  rw [u64_id (by unfold hi; omega) (by unfold hi; omega), e (by unfold hi; omega) (by unfold lo; omega) (by unfold hi; omega) (by unfold lo; omega) (by unfold hi lo; omega)]
  unfold hi lo
  omega
theorem twice_lo (r : Int) {x : Int} (hx : x = 0 ∨ x = 1) : bits .or .u64 (IntKind.u64.wrap (lo r * 2)) x = lo (2 * r + x) := by
  have e := or_add (lo r % 9223372036854775808) x 1
  rw [show (2 : Int) ^ 1 = 2 from rfl] at e
  rw [show IntKind.u64.wrap (lo r * 2) = lo r % 9223372036854775808 * 2 by rw [u64_eq]; omega, e (by omega) (by omega) (by omega) (by omega) (by omega)]
  unfold lo
  omega
theorem twice_low (q : Int) : IntKind.u64.wrap (lo q * 2) = lo (2 * q) := by rw [u64_eq]; unfold lo; omega
theorem twice_odd (q : Int) : bits .or .u64 (lo (2 * q)) 1 = lo (2 * q + 1) := by
  have e := or_add (lo (2 * q) / 2) 1 1
  rw [show (2 : Int) ^ 1 = 2 from rfl, show lo (2 * q) / 2 * 2 = lo (2 * q) by unfold lo; omega] at e
  have := lo_bd (2 * q)
  rw [e (by omega) (by omega) (by omega) (by omega) (by unfold lo; omega)]
  unfold lo
  omega
theorem valB_pre {pre : List Bit} (h : pre.length < 128) : 0 ≤ valB pre ∧ valB pre < 170141183460469231731687303715884105728 := by
  obtain ⟨h0, h1⟩ := valB_lt pre
  have h2 : ((2 ^ pre.length : Nat) : Int) ≤ ((2 ^ 127 : Nat) : Int) := Int.ofNat_le.2 (Nat.pow_le_pow_right (by omega) (by omega))
  rw [Int.natCast_pow] at h2
  have h3 : (2 : Int) ^ pre.length ≤ 170141183460469231731687303715884105728 := h2
  omega
/-- One bit more. -/
theorem over_step {P d x : Int} (d0 : 18446744073709551616 ≤ d) (d1 : d ≤ 170141183460469231731687303715884105728) (P0 : 0 ≤ P) (P1 : P < 170141183460469231731687303715884105728) (hx : x = 0 ∨ x = 1) :
    0 ≤ P % d ∧ 2 * (P % d) + x < 340282366920938463463374607431768211456 ∧ 0 ≤ P / d ∧ 2 * (P / d) + 1 < 340282366920938463463374607431768211456 ∧
      (if 2 * (P % d) + x < d then (2 * P + x) / d = 2 * (P / d) ∧ (2 * P + x) % d = 2 * (P % d) + x else (2 * P + x) / d = 2 * (P / d) + 1 ∧ (2 * P + x) % d = 2 * (P % d) + x - d) := by
  have e := Int.emod_add_mul_ediv P d
  have r0 := Int.emod_nonneg P (show d ≠ 0 by omega)
  have r1 := Int.emod_lt_of_pos P (show 0 < d by omega)
  have q0 : 0 ≤ P / d := Int.ediv_nonneg P0 (by omega)
  have q1 : P / d ≤ P := Int.ediv_le_self _ P0
  generalize P / d = q at *
  generalize P % d = r at *
  refine ⟨r0, by omega, q0, by omega, ?_⟩
  have key : ∀ q' r' : Int, 2 * P + x = r' + d * q' → 0 ≤ r' → r' < d → (2 * P + x) / d = q' ∧ (2 * P + x) % d = r' := by
    intro q' r' h h0 h1
    rw [h]
    exact ⟨by rw [Int.add_mul_ediv_left _ _ (by omega), Int.ediv_eq_zero_of_lt h0 h1]; omega, by rw [Int.add_mul_emod_self_left, Int.emod_eq_of_lt h0 h1]⟩
  have m : d * (2 * q) = 2 * (d * q) := by rw [← Int.mul_assoc, Int.mul_comm d 2, Int.mul_assoc]
  split
  · exact key _ _ (by rw [m]; omega) (by omega) (by omega)
  · exact key _ _ (by rw [Int.mul_add, m]; omega) (by omega) (by omega)

/-- What the loop's cells hold: the quotient, the rest; and what stands. -/
def OverJ (w : World) (b d q r : Int) (W : World) : Prop :=
  Box2 W (w.heap.size + 1 + 1 + 1 + 1) (.int .u64 (hi q)) (.int .u64 (lo q)) 213 ∧
  Box2 W (w.heap.size + 1 + 1 + 1 + 1 + 1) (.int .u64 (hi r)) (.int .u64 (lo r)) 213 ∧
  Box2 W (w.heap.size + 1) (.int .u64 (hi d)) (.int .u64 (lo d)) 213 ∧
  Box2 W (w.heap.size + 1 + 1) (.int .u64 0) (.int .u64 0) 213 ∧ Box2 W (w.heap.size + 1 + 1 + 1) (.int .u64 0) (.int .u64 0) 213 ∧
  Box2 W (w.heap.size + 1 + 1 + 1 + 1 + 1 + 1) (.int .u64 (hi b)) (.int .u64 (lo b)) 213
def OverI (w : World) (b d : Int) (pre : List Bit) (W : World) : Prop := OverJ w b d (valB pre / d) (valB pre % d) W
theorem overI_own (w : World) (b d : Int) : Go.Own (OverI w b d) := fun s X Y row hs hg hr =>
  ⟨box_own _ _ (fun pre => .int .u64 (hi (valB pre / d))) (fun pre => .int .u64 (lo (valB pre / d))) s X Y row hs.1 hg hr,
    box_own _ _ (fun pre => .int .u64 (hi (valB pre % d))) (fun pre => .int .u64 (lo (valB pre % d))) s X Y row hs.2.1 hg hr,
    box_own _ _ (fun _ => .int .u64 (hi d)) (fun _ => .int .u64 (lo d)) s X Y row hs.2.2.1 hg hr,
    box_own _ _ (fun _ => .int .u64 0) (fun _ => .int .u64 0) s X Y row hs.2.2.2.1 hg hr,
    box_own _ _ (fun _ => .int .u64 0) (fun _ => .int .u64 0) s X Y row hs.2.2.2.2.1 hg hr,
    box_own _ _ (fun _ => .int .u64 (hi b)) (fun _ => .int .u64 (lo b)) s X Y row hs.2.2.2.2.2 hg hr⟩
theorem OverJ.alloc {w W : World} {b d q r : Int} (h : OverJ w b d q r W) (o : Obj) : OverJ w b d q r (W.alloc o) :=
  ⟨h.1.alloc o, h.2.1.alloc o, h.2.2.1.alloc o, h.2.2.2.1.alloc o, h.2.2.2.2.1.alloc o, h.2.2.2.2.2.alloc o⟩
theorem OverJ.setR {w W : World} {b d q r : Int} (h : OverJ w b d q r W) (x : Int) : OverJ w b d q x ((W.setCell ⟨w.heap.size + 1 + 1 + 1 + 1 + 1, 0, none⟩ (.int .u64 (hi x))).setCell ⟨w.heap.size + 1 + 1 + 1 + 1 + 1, 1, none⟩ (.int .u64 (lo x))) :=
  ⟨h.1.other2 (by omega) _ _, h.2.1.set _ _, h.2.2.1.other2 (by omega) _ _, h.2.2.2.1.other2 (by omega) _ _, h.2.2.2.2.1.other2 (by omega) _ _, h.2.2.2.2.2.other2 (by omega) _ _⟩
theorem OverJ.setQ {w W : World} {b d q r : Int} (h : OverJ w b d q r W) (x : Int) : OverJ w b d x r ((W.setCell ⟨w.heap.size + 1 + 1 + 1 + 1, 0, none⟩ (.int .u64 (hi x))).setCell ⟨w.heap.size + 1 + 1 + 1 + 1, 1, none⟩ (.int .u64 (lo x))) :=
  ⟨h.1.set _ _, h.2.1.other2 (by omega) _ _, h.2.2.1.other2 (by omega) _ _, h.2.2.2.1.other2 (by omega) _ _, h.2.2.2.2.1.other2 (by omega) _ _, h.2.2.2.2.2.other2 (by omega) _ _⟩
theorem OverJ.odd {w W : World} {b d q r : Int} (h : OverJ w b d (2 * q) r W) : OverJ w b d (2 * q + 1) r (W.setCell ⟨w.heap.size + 1 + 1 + 1 + 1, 1, none⟩ (.int .u64 (lo (2 * q + 1)))) := by
  refine ⟨?_, h.2.1.other (by omega) _ _, h.2.2.1.other (by omega) _ _, h.2.2.2.1.other (by omega) _ _, h.2.2.2.2.1.other (by omega) _ _, h.2.2.2.2.2.other (by omega) _ _⟩
  have e : hi (2 * q + 1) = hi (2 * q) := by unfold hi; omega
  rw [e]
  exact Joins.block_setCell (i := 1) h.1 _
theorem overI_nil {w V : World} {b d : Int} (hQ : Box2 V (w.heap.size + 1 + 1 + 1 + 1) (.int .u64 0) (.int .u64 0) 213) (hR : Box2 V (w.heap.size + 1 + 1 + 1 + 1 + 1) (.int .u64 0) (.int .u64 0) 213)
    (hD : Box2 V (w.heap.size + 1) (.int .u64 (hi d)) (.int .u64 (lo d)) 213) (h4 : Box2 V (w.heap.size + 1 + 1) (.int .u64 0) (.int .u64 0) 213) (h5 : Box2 V (w.heap.size + 1 + 1 + 1) (.int .u64 0) (.int .u64 0) 213)
    (hX : Box2 V (w.heap.size + 1 + 1 + 1 + 1 + 1 + 1) (.int .u64 (hi b)) (.int .u64 (lo b)) 213) : OverI w b d [] V := by
  have e1 : valB [] / d = 0 := Int.zero_ediv d
  have e2 : valB [] % d = 0 := Int.zero_emod d
  refine ⟨?_, ?_, hD, h4, h5, hX⟩
  · rw [e1]; exact hQ
  · rw [e2]; exact hR

theorem hi_pair {x d : Int} (d1 : d ≤ 170141183460469231731687303715884105728) (h : x < 340282366920938463463374607431768211456) (hl : ¬ x < d) (d0 : 18446744073709551616 ≤ d) :
    0 ≤ hi x ∧ hi x < 18446744073709551616 ∧ 0 ≤ hi d ∧ hi d < 18446744073709551616 := by unfold hi; omega
theorem sub_hi (x d : Int) (h0 : 0 ≤ hi x) (h1 : hi x < 18446744073709551616) (h2 : 0 ≤ hi d) (h3 : hi d < 18446744073709551616) (hl : ¬ x < d) : (hi x - hi d - bor (lo x) (lo d) 0) % 18446744073709551616 = hi (x - d) := by
  rw [bor_def]; unfold hi lo at *; omega
set_option maxRecDepth 100000 in
set_option maxHeartbeats 3200000 in
theorem over_great (b d : Int) (w : World) (hb : U128 b) (d0 : 18446744073709551616 ≤ d) (d1 : d ≤ 170141183460469231731687303715884105728) :
    Calls Try.prog 196 #[.agg #[.int .u64 (hi b), .int .u64 (lo b)], .agg #[.int .u64 (hi d), .int .u64 (lo d)]] w (RetB w (b / d) (b % d)) := by
  obtain ⟨W0, hW0⟩ : ∃ W0, W0 = (((((w.alloc (.cells #[.int .u64 (hi b), .int .u64 (lo b)] 213)).alloc (.cells #[.int .u64 (hi d), .int .u64 (lo d)] 213)).alloc (.cells #[.int .u64 0, .int .u64 0] 213)).alloc (.cells #[.int .u64 0, .int .u64 0] 213)).alloc (.cells #[.int .u64 0, .int .u64 0] 213)).alloc (.cells #[.int .u64 0, .int .u64 0] 213) := ⟨_, rfl⟩
  have hd : (hi d == 0) = false := by rw [beq_eq_false_iff_ne]; unfold hi; omega
  have HB := Lib.hid hb
  have HD0 := Lib.hid d0
  have HD1 := Lib.hid d1
  clear hb d0 d1
  refine (callsIn_wide (n := 10)).1 ?_
  refine callsIn_of_wp_marks Try.func196 rfl trivial ?_ rfl
  simp only [Try.ntmps196, List.size_toArray, List.length_cons, List.length_nil, Nat.reduceAdd, Nat.reduceSub, Array.replicate_succ, Array.replicate_zero, List.push_toArray, List.append_toArray, List.nil_append, List.cons_append]
  obtain ⟨z, hz⟩ : ∃ z, (hi b == 0) = z := ⟨_, rfl⟩
  cases z
  · gi_wp2_with (refine ⟨trivial, ?_⟩; gi_at_call 225; refine (callsIn_wide.2 (ddown b _)).mono ?_; rintro e w' ⟨rfl, rfl⟩)
    rw [← hW0]
    obtain ⟨V, hV⟩ : ∃ V, V = W0.alloc (.cells #[.int .u64 (hi b), .int .u64 (lo b)] 213) := ⟨_, rfl⟩
    have hX : Box2 V (w.heap.size + 1 + 1 + 1 + 1 + 1 + 1) (.int .u64 (hi b)) (.int .u64 (lo b)) 213 := by rw [hV]; exact Box2.new (by rw [hW0]; simp)
    have hD : Box2 V (w.heap.size + 1) (.int .u64 (hi d)) (.int .u64 (lo d)) 213 := by rw [hV, hW0]; exact (((((Box2.new (by simp)).alloc _).alloc _).alloc _).alloc _).alloc _
    have h4 : Box2 V (w.heap.size + 1 + 1) (.int .u64 0) (.int .u64 0) 213 := by rw [hV, hW0]; exact ((((Box2.new (by simp)).alloc _).alloc _).alloc _).alloc _
    have h5 : Box2 V (w.heap.size + 1 + 1 + 1) (.int .u64 0) (.int .u64 0) 213 := by rw [hV, hW0]; exact (((Box2.new (by simp)).alloc _).alloc _).alloc _
    have hQ : Box2 V (w.heap.size + 1 + 1 + 1 + 1) (.int .u64 0) (.int .u64 0) 213 := by rw [hV, hW0]; exact ((Box2.new (by simp)).alloc _).alloc _
    have hR : Box2 V (w.heap.size + 1 + 1 + 1 + 1 + 1) (.int .u64 0) (.int .u64 0) 213 := by rw [hV, hW0]; exact (Box2.new (by simp)).alloc _
    have xw : Ext w V := by rw [hV, hW0]; exact (Ext.refl w).alloc.alloc.alloc.alloc.alloc.alloc.alloc
    have sV : V.heap.size = w.heap.size + 7 := by rw [hV, hW0]; simp
    try rw [hW0, ← hV]
    try rw [← hV]
    clear hV hW0 W0
    refine wpIn_rangeFunc_ownF rfl (by omega) (gf := 228) (lb := #[.pointer (some ⟨w.heap.size + 1 + 1 + 1 + 1 + 1 + 1, 0, none⟩)]) rfl trivial (enters_of Try.func228 (by kernel_rfl) rfl)
      (down_stops (w.heap.size + 1 + 1 + 1 + 1 + 1 + 1) b HB.out V hX) (fun h k => k.trans h)
      (fun W l o o' hl h _ _ => (grownBy_putObj' W l o').block _ (by have := (Array.getElem?_eq_some_iff.1 h).1; omega) (fun e => by cases e; omega)) (Below.refl _ _) (fun _ => rfl)
      (fun pre W => OverI w b d pre W ∧ Below w.heap.size w W)
      (fun _ _ _ => False)
      (OwnFrom.and (Own.from (overI_own w b d) _) (ownFrom_below (Nat.le_refl _) (by rw [sV]; omega)))
      (fun _ _ _ _ _ hs _ _ => hs)
      ⟨overI_nil hQ hR hD h4 h5 hX, xw⟩ ?actA ?assignA ?bodyA ?doneA ?stopA
    case assignA =>
      intro l x W K hK
      gi_wp2
      exact hK
    case bodyA =>
      rintro l pre x W ⟨hJ, hBl⟩ hlt
      have hx := x.2
      obtain ⟨P0, P1⟩ := valB_pre hlt
      obtain ⟨r0, r1, q0, q1, hST⟩ := over_step (x := x.1) HD0.out HD1.out P0 P1 hx
      have HN := Lib.hid (valB_snoc pre x)
      have HST := Lib.hid hST
      have hXX : W.heap[w.heap.size + 1 + 1 + 1 + 1 + 1 + 1]? = _ := hJ.2.2.2.2.2
      clear hST P0 P1
      unfold OverI at hJ
      generalize valB pre / d = q at *
      generalize valB pre % d = r at *
      generalize x.1 = v at *
      have E1 := Lib.hid (twice_hi r0 hx r1)
      have E2 := Lib.hid (twice_lo r hx)
      have E3 := Lib.hid (twice_hi (x := 0) q0 (.inl rfl) (by omega))
      have E4 := Lib.hid (twice_low q)
      have E5 := Lib.hid (twice_odd q)
      have A1 := Lib.hid r1
      clear r1 q1 q0 r0 hx
      obtain ⟨hQ, hR, hD, h45⟩ := hJ
      have hQ_0 := hQ.c0; have hQ_1 := hQ.c1; have hR_0 := hR.c0; have hR_1 := hR.c1; have hD_0 := hD.c0; have hD_1 := hD.c1
      have hQ_2 := hQ.f0; have hQ_3 := hQ.f1; have hR_2 := hR.f0; have hR_3 := hR.f1
      gi_wp2
      clear hQ_0 hQ_1 hR_0 hR_1 hD_0 hD_1
      clear hQ_2 hQ_3 hR_2 hR_3
      rw [E1.out, E2.out, E3.out, E4.out, Int.add_zero]
      obtain ⟨W2, hW2⟩ : ∃ W2, W2 = (((W.setCell ⟨w.heap.size + 1 + 1 + 1 + 1 + 1, 0, none⟩ (.int .u64 (hi (2 * r + v)))).setCell ⟨w.heap.size + 1 + 1 + 1 + 1 + 1, 1, none⟩ (.int .u64 (lo (2 * r + v)))).setCell ⟨w.heap.size + 1 + 1 + 1 + 1, 0, none⟩ (.int .u64 (hi (2 * q)))).setCell ⟨w.heap.size + 1 + 1 + 1 + 1, 1, none⟩ (.int .u64 (lo (2 * q))) := ⟨_, rfl⟩
      rw [← hW2]
      have hJ : OverJ w b d (2 * q) (2 * r + v) W2 := by rw [hW2]; exact (OverJ.setR ⟨hQ, hR, hD, h45⟩ _).setQ _
      have hKO : KeepsOthers W W2 := by rw [hW2]; exact (((KeepsOthers.setCell _ _ _).trans (KeepsOthers.setCell _ _ _)).trans (KeepsOthers.setCell _ _ _)).trans (KeepsOthers.setCell _ _ _)
      replace hBl : Below w.heap.size w W2 := by rw [hW2]; exact below_set2 (below_set2 hBl (by omega) _ _) (by omega) _ _
      clear hW2 hQ hR hD h45
      refine ⟨trivial, (CallsIn.inRound l (callsIn_wide.2 (dless (2 * r + v) d W2))).mono ?_⟩
      rintro e w3 ⟨rfl, rfl⟩
      obtain ⟨W3, hW3⟩ : ∃ W3, W3 = (W2.alloc (.cells #[.int .u64 (hi (2 * r + v)), .int .u64 (lo (2 * r + v))] 213)).alloc (.cells #[.int .u64 (hi d), .int .u64 (lo d)] 213) := ⟨_, rfl⟩
      rw [← hW3]
      replace hJ : OverJ w b d (2 * q) (2 * r + v) W3 := by rw [hW3]; exact (hJ.alloc _).alloc _
      replace hKO : KeepsOthers W W3 := by rw [hW3]; exact (hKO.trans (KeepsOthers.alloc _ _)).trans (KeepsOthers.alloc _ _)
      replace hBl : Below w.heap.size w W3 := by rw [hW3]; exact (hBl.alloc hBl.size _).alloc (Nat.le_trans hBl.size (by simp)) _
      clear hW3
      by_cases hl : 2 * r + v < d
      · rw [decide_eq_true hl]
        gi_wp2
        have hst := HST.out
        rw [if_pos hl, ← HN.out] at hst
        refine ⟨hKO, hJ.2.2.2.2.2.trans hXX.symm, ?_, hBl⟩
        unfold OverI
        rw [hst.1, hst.2]
        exact hJ
      · rw [decide_eq_false hl]
        obtain ⟨hQ, hR, hD, h45⟩ := hJ
        have hQ_0 := hQ.c0; have hQ_1 := hQ.c1; have hR_0 := hR.c0; have hR_1 := hR.c1; have hD_0 := hD.c0; have hD_1 := hD.c1
        have hQ_2 := hQ.f0; have hQ_3 := hQ.f1; have hR_2 := hR.f0; have hR_3 := hR.f1
        have r102 := run_sub64'
        obtain ⟨l0, l1⟩ := lo_bd (2 * r + v)
        obtain ⟨l2, l3⟩ := lo_bd d
        obtain ⟨m0, m1, m2, m3⟩ := hi_pair HD1.out A1.out hl HD0.out
        have c0 : 0 ≤ bor (lo (2 * r + v)) (lo d) 0 := by rw [bor_def]; omega
        have c1 : bor (lo (2 * r + v)) (lo d) 0 ≤ 1 := by rw [bor_def]; omega
        gi_wp2
        refine ⟨trivial, ?_⟩
        gi_wp2
        refine ⟨trivial, ?_⟩
        gi_wp2
        clear r102
        rw [sub_hi _ _ m0 m1 m2 m3 (by omega), ← lo_sub, E5.out]
        have hst := HST.out
        rw [if_neg (by omega), ← HN.out] at hst
        have hJ' := (OverJ.setR ⟨hQ, hR, hD, h45⟩ (2 * r + v - d)).odd
        refine ⟨((hKO.trans (KeepsOthers.setCell _ _ _)).trans (KeepsOthers.setCell _ _ _)).trans (KeepsOthers.setCell _ _ _), hJ'.2.2.2.2.2.trans hXX.symm, ?_, (below_set2 hBl (by omega) _ _).setCell (p := ⟨_, 1, none⟩) (by simp; omega) _⟩
        unfold OverI
        rw [hst.1, hst.2]
        exact hJ'
    case doneA =>
      rintro D ys W hD' rfl ⟨⟨hQ, hR, hD, h4, h5, hX⟩, hBl⟩ hK
      rw [valB_all HB.out] at hQ hR
      generalize b / d = q at *
      generalize b % d = r at *
      have hQ_0 := hQ.c0; have hQ_1 := hQ.c1; have hR_0 := hR.c0; have hR_1 := hR.c1; have h4_0 := h4.c0; have h4_1 := h4.c1; have h5_0 := h5.c0; have h5_1 := h5.c1
      have hQ_2 := hQ.f0; have hQ_3 := hQ.f1; have hR_2 := hR.f0; have hR_3 := hR.f1; have h4_2 := h4.f0; have h4_3 := h4.f1; have h5_2 := h5.f0; have h5_3 := h5.f1
      gi_wp2
      gi_region
      gi_wp2
      obtain ⟨U, hU⟩ : ∃ U, U = ((((W.setCell ⟨w.heap.size + 1 + 1, 0, none⟩ (.int .u64 (hi q))).setCell ⟨w.heap.size + 1 + 1, 1, none⟩ (.int .u64 (lo q))).setCell ⟨w.heap.size + 1 + 1 + 1, 0, none⟩ (.int .u64 (hi r))).setCell ⟨w.heap.size + 1 + 1 + 1, 1, none⟩ (.int .u64 (lo r))).drew := ⟨_, rfl⟩
      rw [← hU]
      have k4 : Box2 U (w.heap.size + 1 + 1) (.int .u64 (hi q)) (.int .u64 (lo q)) 213 := by rw [hU]; exact ((h4.set _ _).other2 (by omega) _ _).drew
      have k5 : Box2 U (w.heap.size + 1 + 1 + 1) (.int .u64 (hi r)) (.int .u64 (lo r)) 213 := by rw [hU]; exact ((h5.other2 (by omega) _ _).set _ _).drew
      have hKU : U.heap[D]? = some (.deferred (some [])) := by
        rw [hU]
        exact (((((KeepsOthers.setCell _ _ _).trans (KeepsOthers.setCell _ _ _)).trans (KeepsOthers.setCell _ _ _)).trans (KeepsOthers.setCell _ _ _)).trans (KeepsOthers.drew _)).same D _ hK rfl
      have hBU : Ext w U := by rw [hU]; exact Ext.drew (below_set2 (below_set2 hBl (by omega) _ _) (by omega) _ _)
      clear hU
      refine ⟨by simp, .inl ⟨_, _, rfl, run_takeDeferred hKU, ?_⟩⟩
      have g4 : Box2 (U.putObj D (.deferred none)) (w.heap.size + 1 + 1) (.int .u64 (hi q)) (.int .u64 (lo q)) 213 := (grownBy_keeps_cells (grownBy_putObj' _ D (.deferred none)) (fun r e => by cases e; exact ⟨_, hKU, rfl⟩) k4 rfl).trans k4
      have g5 : Box2 (U.putObj D (.deferred none)) (w.heap.size + 1 + 1 + 1) (.int .u64 (hi r)) (.int .u64 (lo r)) 213 := (grownBy_keeps_cells (grownBy_putObj' _ D (.deferred none)) (fun r e => by cases e; exact ⟨_, hKU, rfl⟩) k5 rfl).trans k5
      have g6 := g4.c0
      have g7 := g4.c1
      have g8 := g5.c0
      have g9 := g5.c1
      refine ⟨.tuple #[.agg #[.int .u64 (hi q), .int .u64 (lo q)], .agg #[.int .u64 (hi r), .int .u64 (lo r)]], ?_, rfl, Below.trans hBU (belowK_b (w := w) (Nat.le_refl _) U D _ _ (by omega) hKU rfl rfl)⟩
      simp [results, Try.results196, go_sem, g6, g7, g8, g9]
    case stopA =>
      rintro D c pre W _ _ h _
      exact h.elim
  · gi_wp2_with (refine ⟨trivial, ?_⟩; gi_at_call 225; refine (callsIn_wide.2 (ddown b _)).mono ?_; rintro e w' ⟨rfl, rfl⟩)
    rw [← hW0]
    obtain ⟨V, hV⟩ : ∃ V, V = W0.alloc (.cells #[.int .u64 (hi b), .int .u64 (lo b)] 213) := ⟨_, rfl⟩
    have hX : Box2 V (w.heap.size + 1 + 1 + 1 + 1 + 1 + 1) (.int .u64 (hi b)) (.int .u64 (lo b)) 213 := by rw [hV]; exact Box2.new (by rw [hW0]; simp)
    have hD : Box2 V (w.heap.size + 1) (.int .u64 (hi d)) (.int .u64 (lo d)) 213 := by rw [hV, hW0]; exact (((((Box2.new (by simp)).alloc _).alloc _).alloc _).alloc _).alloc _
    have h4 : Box2 V (w.heap.size + 1 + 1) (.int .u64 0) (.int .u64 0) 213 := by rw [hV, hW0]; exact ((((Box2.new (by simp)).alloc _).alloc _).alloc _).alloc _
    have h5 : Box2 V (w.heap.size + 1 + 1 + 1) (.int .u64 0) (.int .u64 0) 213 := by rw [hV, hW0]; exact (((Box2.new (by simp)).alloc _).alloc _).alloc _
    have hQ : Box2 V (w.heap.size + 1 + 1 + 1 + 1) (.int .u64 0) (.int .u64 0) 213 := by rw [hV, hW0]; exact ((Box2.new (by simp)).alloc _).alloc _
    have hR : Box2 V (w.heap.size + 1 + 1 + 1 + 1 + 1) (.int .u64 0) (.int .u64 0) 213 := by rw [hV, hW0]; exact (Box2.new (by simp)).alloc _
    have xw : Ext w V := by rw [hV, hW0]; exact (Ext.refl w).alloc.alloc.alloc.alloc.alloc.alloc.alloc
    have sV : V.heap.size = w.heap.size + 7 := by rw [hV, hW0]; simp
    try rw [hW0, ← hV]
    try rw [← hV]
    clear hV hW0 W0
    refine wpIn_rangeFunc_ownF rfl (by omega) (gf := 228) (lb := #[.pointer (some ⟨w.heap.size + 1 + 1 + 1 + 1 + 1 + 1, 0, none⟩)]) rfl trivial (enters_of Try.func228 (by kernel_rfl) rfl)
      (down_stops (w.heap.size + 1 + 1 + 1 + 1 + 1 + 1) b HB.out V hX) (fun h k => k.trans h)
      (fun W l o o' hl h _ _ => (grownBy_putObj' W l o').block _ (by have := (Array.getElem?_eq_some_iff.1 h).1; omega) (fun e => by cases e; omega)) (Below.refl _ _) (fun _ => rfl)
      (fun pre W => OverI w b d pre W ∧ Below w.heap.size w W)
      (fun _ _ _ => False)
      (OwnFrom.and (Own.from (overI_own w b d) _) (ownFrom_below (Nat.le_refl _) (by rw [sV]; omega)))
      (fun _ _ _ _ _ hs _ _ => hs)
      ⟨overI_nil hQ hR hD h4 h5 hX, xw⟩ ?actB ?assignB ?bodyB ?doneB ?stopB
    case assignB =>
      intro l x W K hK
      gi_wp2
      exact hK
    case bodyB =>
      rintro l pre x W ⟨hJ, hBl⟩ hlt
      have hx := x.2
      obtain ⟨P0, P1⟩ := valB_pre hlt
      obtain ⟨r0, r1, q0, q1, hST⟩ := over_step (x := x.1) HD0.out HD1.out P0 P1 hx
      have HN := Lib.hid (valB_snoc pre x)
      have HST := Lib.hid hST
      have hXX : W.heap[w.heap.size + 1 + 1 + 1 + 1 + 1 + 1]? = _ := hJ.2.2.2.2.2
      clear hST P0 P1
      unfold OverI at hJ
      generalize valB pre / d = q at *
      generalize valB pre % d = r at *
      generalize x.1 = v at *
      have E1 := Lib.hid (twice_hi r0 hx r1)
      have E2 := Lib.hid (twice_lo r hx)
      have E3 := Lib.hid (twice_hi (x := 0) q0 (.inl rfl) (by omega))
      have E4 := Lib.hid (twice_low q)
      have E5 := Lib.hid (twice_odd q)
      have A1 := Lib.hid r1
      clear r1 q1 q0 r0 hx
      obtain ⟨hQ, hR, hD, h45⟩ := hJ
      have hQ_0 := hQ.c0; have hQ_1 := hQ.c1; have hR_0 := hR.c0; have hR_1 := hR.c1; have hD_0 := hD.c0; have hD_1 := hD.c1
      have hQ_2 := hQ.f0; have hQ_3 := hQ.f1; have hR_2 := hR.f0; have hR_3 := hR.f1
      gi_wp2
      clear hQ_0 hQ_1 hR_0 hR_1 hD_0 hD_1
      clear hQ_2 hQ_3 hR_2 hR_3
      rw [E1.out, E2.out, E3.out, E4.out, Int.add_zero]
      obtain ⟨W2, hW2⟩ : ∃ W2, W2 = (((W.setCell ⟨w.heap.size + 1 + 1 + 1 + 1 + 1, 0, none⟩ (.int .u64 (hi (2 * r + v)))).setCell ⟨w.heap.size + 1 + 1 + 1 + 1 + 1, 1, none⟩ (.int .u64 (lo (2 * r + v)))).setCell ⟨w.heap.size + 1 + 1 + 1 + 1, 0, none⟩ (.int .u64 (hi (2 * q)))).setCell ⟨w.heap.size + 1 + 1 + 1 + 1, 1, none⟩ (.int .u64 (lo (2 * q))) := ⟨_, rfl⟩
      rw [← hW2]
      have hJ : OverJ w b d (2 * q) (2 * r + v) W2 := by rw [hW2]; exact (OverJ.setR ⟨hQ, hR, hD, h45⟩ _).setQ _
      have hKO : KeepsOthers W W2 := by rw [hW2]; exact (((KeepsOthers.setCell _ _ _).trans (KeepsOthers.setCell _ _ _)).trans (KeepsOthers.setCell _ _ _)).trans (KeepsOthers.setCell _ _ _)
      replace hBl : Below w.heap.size w W2 := by rw [hW2]; exact below_set2 (below_set2 hBl (by omega) _ _) (by omega) _ _
      clear hW2 hQ hR hD h45
      refine ⟨trivial, (CallsIn.inRound l (callsIn_wide.2 (dless (2 * r + v) d W2))).mono ?_⟩
      rintro e w3 ⟨rfl, rfl⟩
      obtain ⟨W3, hW3⟩ : ∃ W3, W3 = (W2.alloc (.cells #[.int .u64 (hi (2 * r + v)), .int .u64 (lo (2 * r + v))] 213)).alloc (.cells #[.int .u64 (hi d), .int .u64 (lo d)] 213) := ⟨_, rfl⟩
      rw [← hW3]
      replace hJ : OverJ w b d (2 * q) (2 * r + v) W3 := by rw [hW3]; exact (hJ.alloc _).alloc _
      replace hKO : KeepsOthers W W3 := by rw [hW3]; exact (hKO.trans (KeepsOthers.alloc _ _)).trans (KeepsOthers.alloc _ _)
      replace hBl : Below w.heap.size w W3 := by rw [hW3]; exact (hBl.alloc hBl.size _).alloc (Nat.le_trans hBl.size (by simp)) _
      clear hW3
      by_cases hl : 2 * r + v < d
      · rw [decide_eq_true hl]
        gi_wp2
        have hst := HST.out
        rw [if_pos hl, ← HN.out] at hst
        refine ⟨hKO, hJ.2.2.2.2.2.trans hXX.symm, ?_, hBl⟩
        unfold OverI
        rw [hst.1, hst.2]
        exact hJ
      · rw [decide_eq_false hl]
        obtain ⟨hQ, hR, hD, h45⟩ := hJ
        have hQ_0 := hQ.c0; have hQ_1 := hQ.c1; have hR_0 := hR.c0; have hR_1 := hR.c1; have hD_0 := hD.c0; have hD_1 := hD.c1
        have hQ_2 := hQ.f0; have hQ_3 := hQ.f1; have hR_2 := hR.f0; have hR_3 := hR.f1
        have r102 := run_sub64'
        obtain ⟨l0, l1⟩ := lo_bd (2 * r + v)
        obtain ⟨l2, l3⟩ := lo_bd d
        obtain ⟨m0, m1, m2, m3⟩ := hi_pair HD1.out A1.out hl HD0.out
        have c0 : 0 ≤ bor (lo (2 * r + v)) (lo d) 0 := by rw [bor_def]; omega
        have c1 : bor (lo (2 * r + v)) (lo d) 0 ≤ 1 := by rw [bor_def]; omega
        gi_wp2
        refine ⟨trivial, ?_⟩
        gi_wp2
        refine ⟨trivial, ?_⟩
        gi_wp2
        clear r102
        rw [sub_hi _ _ m0 m1 m2 m3 (by omega), ← lo_sub, E5.out]
        have hst := HST.out
        rw [if_neg (by omega), ← HN.out] at hst
        have hJ' := (OverJ.setR ⟨hQ, hR, hD, h45⟩ (2 * r + v - d)).odd
        refine ⟨((hKO.trans (KeepsOthers.setCell _ _ _)).trans (KeepsOthers.setCell _ _ _)).trans (KeepsOthers.setCell _ _ _), hJ'.2.2.2.2.2.trans hXX.symm, ?_, (below_set2 hBl (by omega) _ _).setCell (p := ⟨_, 1, none⟩) (by simp; omega) _⟩
        unfold OverI
        rw [hst.1, hst.2]
        exact hJ'
    case doneB =>
      rintro D ys W hD' rfl ⟨⟨hQ, hR, hD, h4, h5, hX⟩, hBl⟩ hK
      rw [valB_all HB.out] at hQ hR
      generalize b / d = q at *
      generalize b % d = r at *
      have hQ_0 := hQ.c0; have hQ_1 := hQ.c1; have hR_0 := hR.c0; have hR_1 := hR.c1; have h4_0 := h4.c0; have h4_1 := h4.c1; have h5_0 := h5.c0; have h5_1 := h5.c1
      have hQ_2 := hQ.f0; have hQ_3 := hQ.f1; have hR_2 := hR.f0; have hR_3 := hR.f1; have h4_2 := h4.f0; have h4_3 := h4.f1; have h5_2 := h5.f0; have h5_3 := h5.f1
      gi_wp2
      gi_region
      gi_wp2
      obtain ⟨U, hU⟩ : ∃ U, U = ((((W.setCell ⟨w.heap.size + 1 + 1, 0, none⟩ (.int .u64 (hi q))).setCell ⟨w.heap.size + 1 + 1, 1, none⟩ (.int .u64 (lo q))).setCell ⟨w.heap.size + 1 + 1 + 1, 0, none⟩ (.int .u64 (hi r))).setCell ⟨w.heap.size + 1 + 1 + 1, 1, none⟩ (.int .u64 (lo r))).drew := ⟨_, rfl⟩
      rw [← hU]
      have k4 : Box2 U (w.heap.size + 1 + 1) (.int .u64 (hi q)) (.int .u64 (lo q)) 213 := by rw [hU]; exact ((h4.set _ _).other2 (by omega) _ _).drew
      have k5 : Box2 U (w.heap.size + 1 + 1 + 1) (.int .u64 (hi r)) (.int .u64 (lo r)) 213 := by rw [hU]; exact ((h5.other2 (by omega) _ _).set _ _).drew
      have hKU : U.heap[D]? = some (.deferred (some [])) := by
        rw [hU]
        exact (((((KeepsOthers.setCell _ _ _).trans (KeepsOthers.setCell _ _ _)).trans (KeepsOthers.setCell _ _ _)).trans (KeepsOthers.setCell _ _ _)).trans (KeepsOthers.drew _)).same D _ hK rfl
      have hBU : Ext w U := by rw [hU]; exact Ext.drew (below_set2 (below_set2 hBl (by omega) _ _) (by omega) _ _)
      clear hU
      refine ⟨by simp, .inl ⟨_, _, rfl, run_takeDeferred hKU, ?_⟩⟩
      have g4 : Box2 (U.putObj D (.deferred none)) (w.heap.size + 1 + 1) (.int .u64 (hi q)) (.int .u64 (lo q)) 213 := (grownBy_keeps_cells (grownBy_putObj' _ D (.deferred none)) (fun r e => by cases e; exact ⟨_, hKU, rfl⟩) k4 rfl).trans k4
      have g5 : Box2 (U.putObj D (.deferred none)) (w.heap.size + 1 + 1 + 1) (.int .u64 (hi r)) (.int .u64 (lo r)) 213 := (grownBy_keeps_cells (grownBy_putObj' _ D (.deferred none)) (fun r e => by cases e; exact ⟨_, hKU, rfl⟩) k5 rfl).trans k5
      have g6 := g4.c0
      have g7 := g4.c1
      have g8 := g5.c0
      have g9 := g5.c1
      refine ⟨.tuple #[.agg #[.int .u64 (hi q), .int .u64 (lo q)], .agg #[.int .u64 (hi r), .int .u64 (lo r)]], ?_, rfl, Below.trans hBU (belowK_b (w := w) (Nat.le_refl _) U D _ _ (by omega) hKU rfl rfl)⟩
      simp [results, Try.results196, go_sem, g6, g7, g8, g9]
    case stopB =>
      rintro D c pre W _ _ h _
      exact h.elim
end Go.Proofs.Ytcndfpfjckkinaa

/-
  divide.over for every divisor; Trunc and Floor for every two numbers.
-/
namespace Go.Proofs.Ytcndfpfjckkinaa
open Go Go.RowKit

theorem over_any {b d : Int} (hb : U128 b) (d0 : 0 < d) (d1 : d ≤ 170141183460469231731687303715884105728) : OverC b d := by
  intro w
  by_cases h : d < 18446744073709551616
  · exact over_small b d w hb d0 h
  · exact over_great b d w hb (by omega) d1
theorem magW_le {n : Int} (h : W128 n) : mag n ≤ 170141183460469231731687303715884105728 := by unfold W128 at h; unfold mag; split <;> omega
theorem trunc_any {a b : Int} (ha : W128 a) (hb : W128 b) (h0 : b ≠ 0) : Trunc3 a b := fun w =>
  dtrunc a b w ha hb h0 (over_any (mag_U ha) (mag_zero h0) (magW_le hb))
/-- A quotient and a rest, or none: by 0, or where there is no room. -/
def z0 (b x : Int) : Int := if b = 0 then 0 else x
def er (b q : Int) : Int := if b = 0 then 3 else ter q
def RetF (w : World) (b q r : Int) (e : Ending) (w' : World) : Prop :=
  e = .returned (.tuple #[.agg #[.int .i64 (z0 b (thi q)), .int .u64 (z0 b (tlo q))], .agg #[.int .i64 (z0 b (qh q r)), .int .u64 (z0 b (ql q r))], .int .i64 (er b q)]) ∧ Ext w w'
theorem retF_q {w w' : World} {b q r : Int} {e : Ending} (h0 : b ≠ 0) (h : RetQ w q r e w') : RetF w b q r e w' := by
  unfold RetF z0 er
  simp only [if_neg h0]
  exact h
theorem retF_0 {w w' : World} {q r : Int} (x : Ext w w') : RetF w 0 q r (.returned (.tuple #[.agg #[.int .i64 0, .int .u64 0], .agg #[.int .i64 0, .int .u64 0], .int .i64 3])) w' := by
  unfold RetF z0 er
  refine ⟨?_, x⟩
  rfl
set_option maxRecDepth 100000 in
set_option maxHeartbeats 1600000 in
theorem dtrunc0 (a : Int) (w : World) (q r : Int) :
    Calls Try.prog 135 #[.agg #[.int .i64 (hi a), .int .u64 (lo a)], .agg #[.int .i64 0, .int .u64 0]] w (RetF w 0 q r) := by
  go_enter Try.func135, Try.ntmps135
  go_wp2_with fail
  refine bodyPost_ret (v := .tuple #[.agg #[.int .i64 0, .int .u64 0], .agg #[.int .i64 0, .int .u64 0], .int .i64 3]) (by simp [results, Try.results135, go_sem]) rfl (retF_0 (by repeat (first | exact Ext.refl _ | refine Ext.alloc ?_ | refine Ext.drew ?_ | refine Ext.drewN ?_ | refine Ext.set ?_ (Ext.size ?_) | refine Ext.set ?_ (Ext.size1 ?_) | refine Ext.set ?_ (Ext.size2 ?_) | refine Ext.trans ?_ (by assumption))))
theorem dtrunc_any (a b : Int) (w : World) (ha : W128 a) (hb : W128 b) :
    Calls Try.prog 135 #[.agg #[.int .i64 (hi a), .int .u64 (lo a)], .agg #[.int .i64 (hi b), .int .u64 (lo b)]] w (RetF w b (a.tdiv b) (a.tmod b)) := by
  by_cases h0 : b = 0
  · subst h0; exact dtrunc0 a w _ _
  · exact (trunc_any ha hb h0 w).mono fun e w' h => retF_q h0 h
end Go.Proofs.Ytcndfpfjckkinaa

/-
  The reference's Trunc of layer 3 at a divisor of 0.
-/
namespace Go.Proofs.Ytcndfpfjckkinaa
open Go Go.RowKit

end Go.Proofs.Ytcndfpfjckkinaa

/-
  Small laws for the walks: a world gets a name; how great quotients and rests are.
-/
namespace Go.Proofs.Ytcndfpfjckkinaa
open Go Go.RowKit

end Go.Proofs.Ytcndfpfjckkinaa
end
section
/-
  The reference's Common of layer 3.
-/
set_option linter.unusedSimpArgs false
set_option linter.unusedVariables false
namespace Go.Proofs.Ytcndfpfjckkinaa
open Go Go.RowKit

end Go.Proofs.Ytcndfpfjckkinaa

/-
  The reference's Cut of layer 3.
-/
set_option linter.unusedSimpArgs false
set_option linter.unusedVariables false
namespace Go.Proofs.Ytcndfpfjckkinaa
open Go Go.RowKit

end Go.Proofs.Ytcndfpfjckkinaa

/-
  The reference's Trunc of layer 3.
-/
set_option linter.unusedSimpArgs false
set_option linter.unusedVariables false
namespace Go.Proofs.Ytcndfpfjckkinaa
open Go Go.RowKit

end Go.Proofs.Ytcndfpfjckkinaa

/-
  The reference's Lowest of layer 3: a fraction in its lowest terms.
-/
set_option linter.unusedSimpArgs false
set_option linter.unusedVariables false
namespace Go.Proofs.Ytcndfpfjckkinaa
open Go Go.RowKit

/-- A fraction in its lowest terms: above, below. -/
def frP (n d : Int) : Int := wsg (!(decide (n < 0) == decide (d < 0))) ((n.natAbs / Nat.gcd n.natAbs d.natAbs : Nat) : Int)
def frQ (n d : Int) : Int := ((d.natAbs / Nat.gcd n.natAbs d.natAbs : Nat) : Int)
end Go.Proofs.Ytcndfpfjckkinaa
end
section
/-
  A block known whole, of however many cells: what it holds, over calls, makings and stores.
-/
namespace Go.Proofs.Ytcndfpfjckkinaa
open Go Go.RowKit

def Bx (w : World) (k : Nat) (cs : Array Value) (t : TypeId) : Prop := w.heap[k]? = some (.cells cs t (0, 0))
theorem Bx.kind {w : World} {k : Nat} {cs : Array Value} {t : TypeId} (h : Bx w k cs t) : Kind w k t := ⟨_, _, h⟩
theorem Bx.below {w w' : World} {k : Nat} {cs : Array Value} {t : TypeId} (h : Bx w k cs t) (hb : Below w.heap.size w w') : Bx w' k cs t := (hb.block k h.kind.lt).trans h
theorem Bx.ext {w w' : World} {k : Nat} {cs : Array Value} {t : TypeId} (h : Bx w k cs t) (hb : Ext w w') : Bx w' k cs t := h.below hb
theorem Bx.drew {w : World} {k : Nat} {cs : Array Value} {t : TypeId} (h : Bx w k cs t) : Bx w.drew k cs t := h
theorem Bx.drewN {w : World} {k : Nat} {cs : Array Value} {t : TypeId} (h : Bx w k cs t) (n : Nat) : Bx (w.drewN n) k cs t := h
theorem Bx.alloc {w : World} {k : Nat} {cs : Array Value} {t : TypeId} (h : Bx w k cs t) (o : Obj) : Bx (w.alloc o) k cs t := h.below (below1 w o)
theorem Bx.new {w : World} {k : Nat} {cs : Array Value} {t : TypeId} (h : k = w.heap.size) : Bx (w.alloc (.cells cs t)) k cs t := by subst h; exact heap_alloc_new w _
theorem Bx.c {w : World} {k : Nat} {cs : Array Value} {t : TypeId} (h : Bx w k cs t) (i : Nat) {v : Value} (e : cs[i]? = some v) : w.cell? ⟨k, i, none⟩ = some v := by
  unfold Bx at h; simp [World.cell?, h, e]
theorem Bx.f {w : World} {k : Nat} {cs : Array Value} {t : TypeId} (h : Bx w k cs t) (i : Nat) : w.frozen? ⟨k, i, none⟩ = false := by unfold Bx at h; simp [World.frozen?, h]
theorem Bx.other {w : World} {k : Nat} {cs : Array Value} {t : TypeId} (h : Bx w k cs t) {b : Nat} (hne : k ≠ b) (o : Nat) (x : Value) : Bx (w.setCell ⟨b, o, none⟩ x) k cs t :=
  (heap_setCell_other w ⟨b, o, none⟩ k x hne).trans h
end Go.Proofs.Ytcndfpfjckkinaa
end
section
/-
  The clock: fields, most, made, Right, Nanos, Of.
-/
set_option linter.unusedSimpArgs false
set_option linter.unusedVariables false
namespace Go.Proofs.Ytcndfpfjckkinaa
open Go Go.RowKit

def tOk (h m s n : Int) : Prop := (0 ≤ h ∧ h ≤ 23) ∧ (0 ≤ m ∧ m ≤ 59) ∧ (0 ≤ s ∧ s ≤ 59) ∧ (0 ≤ n ∧ n ≤ 999999999)
instance (h m s n : Int) : Decidable (tOk h m s n) := by unfold tOk; exact inferInstance
def tnan (h m s n : Int) : Int := ((h * 60 + m) * 60 + s) * 1000000000 + n
end Go.Proofs.Ytcndfpfjckkinaa
end
section
/-
  clock.Cmp.
-/
set_option linter.unusedSimpArgs false
set_option linter.unusedVariables false
namespace Go.Proofs.Ytcndfpfjckkinaa
open Go Go.RowKit

theorem cmpI_congr {a b c d : Int} (h1 : a < b ↔ c < d) (h2 : a = b ↔ c = d) : cmpI a b = cmpI c d := by unfold cmpI; simp only [h1, h2]
end Go.Proofs.Ytcndfpfjckkinaa
end
section
/-
  Date-times and their numbers; no program in sight.
-/
set_option linter.unusedVariables false
namespace Go.Proofs.Ytcndfpfjckkinaa
open Go

instance (y m d : Int) : Decidable (dIn y m d) := by unfold dIn; infer_instance
instance (y m d : Int) : Decidable (dOk y m d) := by unfold dOk; infer_instance
/-- A date-time that may be. -/
def pOk (y mo d h m s n : Int) : Prop := dOk y mo d ∧ tOk h m s n ∧ ¬ (dnum y mo d = -100000001 ∧ tnan h m s n = 0)
instance (y mo d h m s n : Int) : Decidable (pOk y mo d h m s n) := by unfold pOk; infer_instance
/-- The numbers of date-times. -/
def pIn (x : Int) : Prop := -8640000086400000000000 < x ∧ x < 8640000086400000000000
instance (x : Int) : Decidable (pIn x) := by unfold pIn; infer_instance
/-- How two dates stand to each other. -/
def cmp3 (y m d y' m' d' : Int) : Int := if y = y' then (if m = m' then cmpI d d' else cmpI m m') else cmpI y y'
end Go.Proofs.Ytcndfpfjckkinaa
end
section
/-
  Durations: totals, signs, what may be, and how a total is laid out; no program in sight.
-/
set_option linter.unusedVariables false
namespace Go.Proofs.Ytcndfpfjckkinaa

abbrev LIM : Int := 9007199254740992000000000
def dtot (d h mi s n : Int) : Int := d * 86400000000000 + h * 3600000000000 + mi * 60000000000 + s * 1000000000 + n
/-- The sign of the first field that isn't 0. -/
def sg8 (a b c d h mi s n : Int) : Int := if a ≠ 0 then cmpI a 0 else if b ≠ 0 then cmpI b 0 else if c ≠ 0 then cmpI c 0 else if d ≠ 0 then cmpI d 0 else if h ≠ 0 then cmpI h 0 else if mi ≠ 0 then cmpI mi 0 else if s ≠ 0 then cmpI s 0 else cmpI n 0
/-- The greatest unit that isn't 0. -/
def lg8 (a b c d h mi s n : Int) : Int := if a ≠ 0 then 1 else if b ≠ 0 then 2 else if c ≠ 0 then 3 else if d ≠ 0 then 4 else if h ≠ 0 then 5 else if mi ≠ 0 then 6 else if s ≠ 0 then 7 else 8
def pos8 (a b c d h mi s n : Int) : Prop := 0 ≤ a ∧ 0 ≤ b ∧ 0 ≤ c ∧ 0 ≤ d ∧ 0 ≤ h ∧ 0 ≤ mi ∧ 0 ≤ s ∧ 0 ≤ n
def neg8 (a b c d h mi s n : Int) : Prop := a ≤ 0 ∧ b ≤ 0 ∧ c ≤ 0 ∧ d ≤ 0 ∧ h ≤ 0 ∧ mi ≤ 0 ∧ s ≤ 0 ∧ n ≤ 0
instance (a b c d h mi s n : Int) : Decidable (pos8 a b c d h mi s n) := by unfold pos8; infer_instance
instance (a b c d h mi s n : Int) : Decidable (neg8 a b c d h mi s n) := by unfold neg8; infer_instance
def cnt1 (a : Int) : Prop := -4294967295 ≤ a ∧ a ≤ 4294967295
instance (a : Int) : Decidable (cnt1 a) := by unfold cnt1; infer_instance
/-- A duration that may be. -/
def uOk (a b c d h mi s n : Int) : Prop := (pos8 a b c d h mi s n ∨ neg8 a b c d h mi s n) ∧ (cnt1 a ∧ cnt1 b ∧ cnt1 c) ∧ -LIM < dtot d h mi s n ∧ dtot d h mi s n < LIM
instance (a b c d h mi s n : Int) : Decidable (uOk a b c d h mi s n) := by unfold uOk; infer_instance
/-- One without years, months, weeks. -/
def uEx (a b c d h mi s n : Int) : Prop := uOk a b c d h mi s n ∧ a = 0 ∧ b = 0 ∧ c = 0
instance (a b c d h mi s n : Int) : Decidable (uEx a b c d h mi s n) := by unfold uEx; infer_instance
/-- An exact one's sign is its total's. -/
theorem sg8_ex {d h mi s n : Int} (k : pos8 0 0 0 d h mi s n ∨ neg8 0 0 0 d h mi s n) : sg8 0 0 0 d h mi s n = cmpI (dtot d h mi s n) 0 := by
  unfold sg8 pos8 neg8 dtot at *
  rw [if_neg (by omega), if_neg (by omega), if_neg (by omega)]
  split
  · exact cmpI_congr (by omega) (by omega)
  · split
    · exact cmpI_congr (by omega) (by omega)
    · split
      · exact cmpI_congr (by omega) (by omega)
      · split
        · exact cmpI_congr (by omega) (by omega)
        · exact cmpI_congr (by omega) (by omega)
/-- A unit's length. -/
def ulen (u : Int) : Int := if u = 4 then 86400000000000 else if u = 5 then 3600000000000 else if u = 6 then 60000000000 else if u = 7 then 1000000000 else if u = 8 then 1 else 0
theorem ulen_no {u : Int} (h : u < 4 ∨ 8 < u) : ulen u = 0 := by unfold ulen; split <;> (try split) <;> (try split) <;> (try split) <;> (try split) <;> omega
/-- The fields of a total x that is laid out from the unit u on. -/
def l4 (u x : Int) : Int := if u = 4 then x.tdiv 86400000000000 else 0
def l5 (u x : Int) : Int := if u = 4 then (x.tmod 86400000000000).tdiv 3600000000000 else if u = 5 then x.tdiv 3600000000000 else 0
def l6 (u x : Int) : Int := if u ≤ 5 then (x.tmod 3600000000000).tdiv 60000000000 else if u = 6 then x.tdiv 60000000000 else 0
def l7 (u x : Int) : Int := if u ≤ 6 then (x.tmod 60000000000).tdiv 1000000000 else if u = 7 then x.tdiv 1000000000 else 0
def l8 (u x : Int) : Int := if u ≤ 7 then x.tmod 1000000000 else x
theorem td (x L : Int) (hL : 0 < L) : x.tdiv L * L + x.tmod L = x ∧ (0 ≤ x → 0 ≤ x.tdiv L ∧ 0 ≤ x.tmod L ∧ x.tmod L < L) ∧ (x ≤ 0 → x.tdiv L ≤ 0 ∧ x.tmod L ≤ 0 ∧ -L < x.tmod L) := by
  have a := Int.tdiv_mul_add_tmod x L
  refine ⟨a, fun h => ⟨Int.tdiv_nonneg h (by omega), Int.tmod_nonneg L h, Int.tmod_lt_of_pos x hL⟩, fun h => ?_⟩
  have b := Int.tdiv_nonneg (a := -x) (b := L) (by omega) (by omega)
  have c := Int.tmod_nonneg (a := -x) L (by omega)
  have d := Int.tmod_lt_of_pos (-x) hL
  rw [Int.neg_tdiv] at b
  rw [Int.neg_tmod] at c d
  omega
/-- What is laid out has its total; its fields have one sign and aren't too great. -/
theorem lay_tot {u x : Int} (h : 4 ≤ u) (k : u ≤ 8) : dtot (l4 u x) (l5 u x) (l6 u x) (l7 u x) (l8 u x) = x ∧
    (0 ≤ x → pos8 0 0 0 (l4 u x) (l5 u x) (l6 u x) (l7 u x) (l8 u x)) ∧ (x ≤ 0 → neg8 0 0 0 (l4 u x) (l5 u x) (l6 u x) (l7 u x) (l8 u x)) := by
  obtain ⟨e1, e1p, e1n⟩ := td x 86400000000000 (by omega)
  obtain ⟨e2, e2p, e2n⟩ := td x 3600000000000 (by omega)
  obtain ⟨e3, e3p, e3n⟩ := td x 60000000000 (by omega)
  obtain ⟨e4, e4p, e4n⟩ := td x 1000000000 (by omega)
  obtain ⟨f2, f2p, f2n⟩ := td (x.tmod 86400000000000) 3600000000000 (by omega)
  obtain ⟨f3, f3p, f3n⟩ := td (x.tmod 3600000000000) 60000000000 (by omega)
  obtain ⟨f4, f4p, f4n⟩ := td (x.tmod 60000000000) 1000000000 (by omega)
  rw [Int.tmod_tmod_of_dvd x (by decide)] at f2 f3 f4
  have hu : u = 4 ∨ u = 5 ∨ u = 6 ∨ u = 7 ∨ u = 8 := by omega
  refine ⟨?_, fun hx => ?_, fun hx => ?_⟩
  · clear e1p e1n e2p e2n e3p e3n e4p e4n f2p f2n f3p f3n f4p f4n
    unfold dtot l4 l5 l6 l7 l8
    rcases hu with rfl | rfl | rfl | rfl | rfl <;> simp only [Int.reduceEq, Int.reduceLE, if_true, if_false] <;> omega
  · have p1 := e1p hx; have p2 := e2p hx; have p3 := e3p hx; have p4 := e4p hx
    have q2 := f2p p1.2.1; have q3 := f3p p2.2.1; have q4 := f4p p3.2.1
    unfold pos8 l4 l5 l6 l7 l8
    rcases hu with rfl | rfl | rfl | rfl | rfl <;> simp only [Int.reduceEq, Int.reduceLE, if_true, if_false] <;> refine ⟨trivial, trivial, trivial, ?_, ?_, ?_, ?_, ?_⟩ <;> first | trivial | omega
  · have p1 := e1n hx; have p2 := e2n hx; have p3 := e3n hx; have p4 := e4n hx
    have q2 := f2n p1.2.1; have q3 := f3n p2.2.1; have q4 := f4n p3.2.1
    unfold neg8 l4 l5 l6 l7 l8
    rcases hu with rfl | rfl | rfl | rfl | rfl <;> simp only [Int.reduceEq, Int.reduceLE, if_true, if_false] <;> refine ⟨trivial, trivial, trivial, ?_, ?_, ?_, ?_, ?_⟩ <;> first | trivial | omega
/-- It may be, where its total may be, and its first field has room. -/
def layOk (u x : Int) : Prop := (4 ≤ u ∧ u ≤ 8) ∧ (-LIM < x ∧ x < LIM) ∧ (-9223372036854775808 ≤ x.tdiv (ulen u) ∧ x.tdiv (ulen u) ≤ 9223372036854775807)
instance (u x : Int) : Decidable (layOk u x) := by unfold layOk; infer_instance
theorem lay_ok {u x : Int} (k : layOk u x) : uEx 0 0 0 (l4 u x) (l5 u x) (l6 u x) (l7 u x) (l8 u x) := by
  obtain ⟨⟨k1, k2⟩, ⟨k3, k4⟩, k5⟩ := k
  obtain ⟨a, b, c⟩ := lay_tot (x := x) k1 k2
  refine ⟨⟨?_, ⟨by unfold cnt1; omega, by unfold cnt1; omega, by unfold cnt1; omega⟩, by rw [a]; exact ⟨k3, k4⟩⟩, rfl, rfl, rfl⟩
  by_cases h : 0 ≤ x
  · exact .inl (b h)
  · exact .inr (c (by omega))
theorem td2 (x A B k : Int) (hA : A = k * B) (hB : 0 < B) (hk : 0 < k) : -k < (x.tmod A).tdiv B ∧ (x.tmod A).tdiv B < k := by
  have a0 : 0 < A := by rw [hA]; exact Int.mul_pos hk hB
  obtain ⟨e1, e2, e3⟩ := td x A a0
  obtain ⟨f1, f2, f3⟩ := td (x.tmod A) B hB
  have key : ∀ q : Int, q * B < k * B → q < k := fun q h => Int.lt_of_mul_lt_mul_right h (by omega)
  by_cases h : 0 ≤ x
  · have := e2 h
    have := f2 this.2.1
    have := key ((x.tmod A).tdiv B) (by omega)
    omega
  · have := e3 (by omega)
    have := f3 this.2.1
    have := key (-((x.tmod A).tdiv B)) (by rw [Int.neg_mul]; omega)
    omega
theorem lay_small {u x : Int} (h : 4 ≤ u) (k : u ≤ 8) : (u < 5 → -24 < l5 u x ∧ l5 u x < 24) ∧ (u < 6 → -60 < l6 u x ∧ l6 u x < 60) ∧ (u < 7 → -60 < l7 u x ∧ l7 u x < 60) ∧ (u < 8 → -1000000000 < l8 u x ∧ l8 u x < 1000000000) := by
  have e4 := td x 1000000000 (by omega)
  have f2 := td2 x 86400000000000 3600000000000 24 (by decide) (by omega) (by omega)
  have f3 := td2 x 3600000000000 60000000000 60 (by decide) (by omega) (by omega)
  have f4 := td2 x 60000000000 1000000000 60 (by decide) (by omega) (by omega)
  refine ⟨fun q => ?_, fun q => ?_, fun q => ?_, fun q => ?_⟩
  · obtain rfl : u = 4 := by omega
    exact f2
  · unfold l6; rw [if_pos (by omega)]; exact f3
  · unfold l7; rw [if_pos (by omega)]; exact f4
  · unfold l8; rw [if_pos (by omega)]
    by_cases hx : 0 ≤ x
    · have := e4.2.1 hx; omega
    · have := e4.2.2 (by omega); omega
/-- An increment of a unit. -/
def incOk (u i : Int) : Prop := 1 ≤ i ∧ (u = 4 ∧ i ≤ 1000000000 ∨ u = 5 ∧ i < 24 ∧ Int.tmod 24 i = 0 ∨ (u = 6 ∨ u = 7) ∧ i < 60 ∧ Int.tmod 60 i = 0 ∨ u = 8 ∧ i < 1000000000 ∧ Int.tmod 1000000000 i = 0)
instance (u i : Int) : Decidable (incOk u i) := by unfold incOk; infer_instance
end Go.Proofs.Ytcndfpfjckkinaa
end
section
/-
  The contracts of the first layers, as the reckoner wants them.
-/
set_option linter.unusedVariables false
namespace Go.Proofs.Ytcndfpfjckkinaa
open Go Go.RowKit Go.Ev

theorem fn1 {f : FuncId} {args : List Value} {v : Value} (h : ∀ w, Calls Try.prog f args.toArray w fun e w' => e = .returned v ∧ Ext w w') : Fn f [] args v := fun w _ => h w
theorem wcmp_fn (m n : Int) : Fn 47 [] [wv m, wv n] (.int .i64 (cmpI m n)) := fn1 (wcmp m n)
theorem wsign_fn (n : Int) : Fn 48 [] [wv n] (.int .i64 (cmpI n 0)) := fn1 (wsign n)
theorem wof_fn (n : Int) (h : I64 n) : Fn 51 [] [.int .i64 n] (wv n) := fn1 fun w => liv_of n w h
theorem wadd_yes (m n : Int) (hm : W128 m) (hn : W128 n) (h : W128 (m + n)) : Fn 129 [] [wv m, wv n] (.tuple #[wv (m + n), .int .i64 0]) := fun w _ => (wadd m n w hm hn).mono fun e w' ⟨h1, h2⟩ => ⟨by rw [h1, thi_yes h, tlo_yes h, ter_yes h], h2⟩
theorem wneg_yes (n : Int) (hn : W128 n) (h : W128 (-n)) : Fn 140 [] [wv n] (.tuple #[wv (-n), .int .i64 0]) := fun w _ => (wneg n w hn).mono fun e w' ⟨h1, h2⟩ => ⟨by rw [h1, thi_yes h, tlo_yes h, ter_yes h], h2⟩
theorem retF_yes {w w' : World} {b q r : Int} {e : Ending} (h0 : b ≠ 0) (h : W128 q) (k : RetF w b q r e w') : e = .returned (.tuple #[wv q, wv r, .int .i64 0]) ∧ Below w.heap.size w w' := by
  obtain ⟨h1, h2⟩ := k
  refine ⟨?_, h2⟩
  rw [h1, thi_yes h, tlo_yes h]; unfold z0 qh ql er; rw [ter_yes h]; simp only [if_neg h0, if_pos h]
theorem dtrunc_yes (a b : Int) (ha : W128 a) (hb : W128 b) (h0 : b ≠ 0) (h : W128 (a.tdiv b)) : Fn 135 [] [wv a, wv b] (.tuple #[wv (a.tdiv b), wv (a.tmod b), .int .i64 0]) := fun w _ => (dtrunc_any a b w ha hb).mono fun e w' k => retF_yes h0 h k
/-! the reference's numbers -/
theorem zret {w w' : World} {n : Int} {e : Ending} (h : RetZ w n e w') : ∃ q : ZQ, e = .returned (zv q) ∧ Below w.heap.size w w' ∧ ZAll [(q, n)] w' := by
  obtain ⟨s, a, l, c, he, hz, hb⟩ := h
  exact ⟨⟨s, a, l, c⟩, he, hb, zall_one hz⟩
theorem zretZ {w w' : World} {m n : Int} {e : Ending} (h : RetZZ w m n e w') : ∃ q : ZQ × ZQ, e = .returned (.tuple #[zv q.1, zv q.2]) ∧ Below w.heap.size w w' ∧ ZAll [(q.1, m), (q.2, n)] w' := by
  obtain ⟨s, a, l, c, s2, a2, l2, c2, he, hz, hz2, hb⟩ := h
  exact ⟨(⟨s, a, l, c⟩, ⟨s2, a2, l2, c2⟩), he, hb, zall_two hz hz2⟩
section
variable {w : World} {p q : ZQ} {x y : Int}
theorem one_z (h : ZAll [(p, x)] w) : IsZ w p.n (.slice p.a p.l p.c) x := h (p, x) (by simp)
theorem two_z (h : ZAll [(p, x), (q, y)] w) : IsZ w p.n (.slice p.a p.l p.c) x ∧ IsZ w q.n (.slice q.a q.l q.c) y := ⟨h (p, x) (by simp), h (q, y) (by simp)⟩
end
theorem fzadd (p q : ZQ) (x y : Int) (hx : Fit x) (hy : Fit y) : FnZ 125 [(p, x), (q, y)] [zv p, zv q] zv (x + y) := fun w h => (add_z _ _ _ _ _ _ _ _ x y w (two_z h).1 (two_z h).2 hx hy).mono fun _ _ => zret
theorem fzmul (p q : ZQ) (x y : Int) (hx : Fit x) (hy : Fit y) : FnZ 112 [(p, x), (q, y)] [zv p, zv q] zv (x * y) := fun w h => (mul_z _ _ _ _ _ _ _ _ x y w (two_z h).1 (two_z h).2 hx hy).mono fun _ _ => zret
theorem fzneg (p : ZQ) (x : Int) (hx : Fit x) : FnZ 128 [(p, x)] [zv p] zv (-x) := fun w h => (neg_any _ _ _ _ x w (one_z h) hx).mono fun _ _ => zret
theorem fzabs (p : ZQ) (x : Int) (hx : Fit x) : FnZ 136 [(p, x)] [zv p] zv (x.natAbs : Int) := fun w h => (abs_any _ _ _ _ x w (one_z h) hx).mono fun _ _ => zret
theorem fzcmp (p q : ZQ) (x y : Int) (hx : Fit x) (hy : Fit y) : Fn 45 [(p, x), (q, y)] [zv p, zv q] (.int .i64 (cmpI x y)) := fun w h => cmp_z _ _ _ _ _ _ _ _ x y w (two_z h).1 (two_z h).2 hx hy
theorem fzdiv (p q : ZQ) (x y : Int) (hx : Bits 1000 x) (hy : Bits 1000 y) (h0 : y ≠ 0) : FnZZ 122 [(p, x), (q, y)] [zv p, zv q] (fun q => .tuple #[zv q.1, zv q.2]) (x.fdiv y) (x.fmod y) := fun w h => (div_z _ _ _ _ _ _ _ _ x y w (two_z h).1 (two_z h).2 1000 (by omega) hx hy h0).mono fun _ _ => zretZ
theorem fzint (n : Int) (h : I64 n) : FnZ 109 [] [.int .i64 n] zv n := fun w _ => (of_any n w h.1 h.2).mono fun _ _ => zret
theorem frof (n : Int) (h : W128 n) : FnZ 35 [] [wv n] zv n := fun w _ => (ofw n w h).mono fun _ _ => zret
end Go.Proofs.Ytcndfpfjckkinaa
end
section
/-
  More contracts of the first layers, as the reckoner wants them.
-/
set_option linter.unusedVariables false
namespace Go.Proofs.Ytcndfpfjckkinaa
open Go Go.RowKit Go.Ev

theorem wmul_f (m n : Int) (hm : I64 m) (hn : I64 n) : Fn 144 [] [.int .i64 m, .int .i64 n] (wv (m * n)) := fn1 fun w => wmul m n w hm hn
theorem wint_f (n : Int) (h : I64 n) : Fn 105 [] [wv n] (.tuple #[.int .i64 n, .bool true]) := fn1 fun w => (wint n w).mono fun e w' q => ⟨by rw [q.1, show t64 n = n from if_pos h, decide_eq_true h], q.2⟩
theorem wint_n (n : Int) (h : ¬ I64 n) : Fn 105 [] [wv n] (.tuple #[.int .i64 0, .bool false]) := fn1 fun w => (wint n w).mono fun e w' q => ⟨by rw [q.1, show t64 n = 0 from if_neg h, decide_eq_false h], q.2⟩
theorem fits_f (p : ZQ) (x : Int) (hb : Bits 1000 x) (h : I64 x) : Fn 111 [(p, x)] [zv p] (.tuple #[.int .i64 x, .bool true]) := fun w k => (fits_any _ _ _ _ x w (one_z k) hb).mono fun e w' q => ⟨by rw [q.1, show t64 x = x from if_pos h, decide_eq_true h], q.2⟩
theorem fits_n (p : ZQ) (x : Int) (hb : Bits 1000 x) (h : ¬ I64 x) : Fn 111 [(p, x)] [zv p] (.tuple #[.int .i64 0, .bool false]) := fun w k => (fits_any _ _ _ _ x w (one_z k) hb).mono fun e w' q => ⟨by rw [q.1, show t64 x = 0 from if_neg h, decide_eq_false h], q.2⟩
end Go.Proofs.Ytcndfpfjckkinaa
end
section
/-
  The days of the calendar: what the program and the reference answer of layer 5 (its parts that other layers use).
-/
set_option linter.unusedVariables false
set_option maxRecDepth 100000
namespace Go.Proofs.Ytcndfpfjckkinaa
open Go Go.RowKit Go.Ev

theorem i_eq {x x' : Int} (h : x = x') : Value.int .i64 x = .int .i64 x' := by rw [h]
theorem b_eq {x x' : Bool} (h : x = x') : Value.bool x = .bool x' := by rw [h]
end Go.Proofs.Ytcndfpfjckkinaa
end
section
/-
  Durations: fields, signs, totals, as the program reckons them.
-/
set_option linter.unusedVariables false
set_option maxRecDepth 100000
namespace Go.Proofs.Ytcndfpfjckkinaa
open Go Go.RowKit Go.Ev

abbrev duv (a b c d h mi s n : Int) : Value := .agg #[.int .i64 a, .int .i64 b, .int .i64 c, .int .i64 d, .int .i64 h, .int .i64 mi, .int .i64 s, .int .i64 n]
abbrev du0 : Value := duv 0 0 0 0 0 0 0 0
abbrev pA (b o : Nat) : Value := .pointer (some ⟨b, o, none⟩)
def fvs (b o : Nat) : List Value := [.pointer none, pA b (o + 0), pA b (o + 1), pA b (o + 2), pA b (o + 3), pA b (o + 4), pA b (o + 5), pA b (o + 6), pA b (o + 7)]
theorem ufields (b o : Nat) : FnB 134 [pA b o] (fvs b o) 169 9 := by
  refine fnB_of Try.func134 rfl fun ww => ?_
  exact st_retB Try.func134 (by kernel_rfl)
section
variable {f0 : FuncId} {E : List TypeId} {w0 : World} {R : Ending → World → Prop} {L : ZL} {c : Cf}
theorem ufields_row (b o : Nat) (hc : callAt (adv Try.prog E 9999 400 c) = some (134, [.ptr b o]))
    (hk : Ru ⟨Try.prog, f0, E, w0, R⟩ (ZAll L) (resumeB (adv Try.prog E 9999 400 c) ⟨[.val (.pointer none), .ptr b (o + 0), .ptr b (o + 1), .ptr b (o + 2), .ptr b (o + 3), .ptr b (o + 4), .ptr b (o + 5), .ptr b (o + 6), .ptr b (o + 7)], 169⟩ 9)) : Ru ⟨Try.prog, f0, E, w0, R⟩ (ZAll L) c :=
  st_rowP [.val (.pointer none), .ptr b (o + 0), .ptr b (o + 1), .ptr b (o + 2), .ptr b (o + 3), .ptr b (o + 4), .ptr b (o + 5), .ptr b (o + 6), .ptr b (o + 7)] ent134 ufields (fun r N hN => cellsOk_cons ⟨rfl, trivial⟩ (cellsOk_cons ⟨rfl, hN⟩ (cellsOk_cons ⟨rfl, hN⟩ (cellsOk_cons ⟨rfl, hN⟩ (cellsOk_cons ⟨rfl, hN⟩ (cellsOk_cons ⟨rfl, hN⟩ (cellsOk_cons ⟨rfl, hN⟩ (cellsOk_cons ⟨rfl, hN⟩ (cellsOk_cons ⟨rfl, hN⟩ cellsOk_nil))))))))) hc hk
end
theorem ulen4 : Fn 63 [] [.int .i64 4] (.int .i64 86400000000000) := by
  refine fn_of Try.func63 rfl fun ww => ?_
  refine st_i 11 .i64 (x' := 4 - 4) (Go.IntWalk.i64_in _ (by omega)) (by kernel_rfl) ?_
  exact st_ret Try.func63 (by kernel_rfl)
theorem ulen5 : Fn 63 [] [.int .i64 5] (.int .i64 3600000000000) := by
  refine fn_of Try.func63 rfl fun ww => ?_
  refine st_i 11 .i64 (x' := 5 - 4) (Go.IntWalk.i64_in _ (by omega)) (by kernel_rfl) ?_
  exact st_ret Try.func63 (by kernel_rfl)
theorem ulen6 : Fn 63 [] [.int .i64 6] (.int .i64 60000000000) := by
  refine fn_of Try.func63 rfl fun ww => ?_
  refine st_i 11 .i64 (x' := 6 - 4) (Go.IntWalk.i64_in _ (by omega)) (by kernel_rfl) ?_
  exact st_ret Try.func63 (by kernel_rfl)
theorem ulen7 : Fn 63 [] [.int .i64 7] (.int .i64 1000000000) := by
  refine fn_of Try.func63 rfl fun ww => ?_
  refine st_i 11 .i64 (x' := 7 - 4) (Go.IntWalk.i64_in _ (by omega)) (by kernel_rfl) ?_
  exact st_ret Try.func63 (by kernel_rfl)
theorem ulen8 : Fn 63 [] [.int .i64 8] (.int .i64 1) := by
  refine fn_of Try.func63 rfl fun ww => ?_
  refine st_i 11 .i64 (x' := 8 - 4) (Go.IntWalk.i64_in _ (by omega)) (by kernel_rfl) ?_
  exact st_ret Try.func63 (by kernel_rfl)
theorem ulen_o (u : Int) (h : u < 4 ∨ 8 < u) : Fn 63 [] [.int .i64 u] (.int .i64 0) := by
  by_cases k : u < 4
  · refine fn_of Try.func63 rfl fun ww => ?_
    refine st_b 4 (show (decide (u < 4)) = true by exact decide_eq_true (by omega)) (by kernel_rfl) ?_
    exact st_ret Try.func63 (by kernel_rfl)
  · have k' : 8 < u := by omega
    refine fn_of Try.func63 rfl fun ww => ?_
    refine st_b 4 (show (decide (u < 4)) = false by exact decide_eq_false (by omega)) (by kernel_rfl) ?_
    refine st_b 7 (show (decide (u > 8)) = true by exact decide_eq_true (by omega)) (by kernel_rfl) ?_
    exact st_ret Try.func63 (by kernel_rfl)
theorem units {u : Int} (h : 4 ≤ u) (k : u ≤ 8) : u = 4 ∨ u = 5 ∨ u = 6 ∨ u = 7 ∨ u = 8 := by omega
theorem ulen_fn (u : Int) : Fn 63 [] [.int .i64 u] (.int .i64 (ulen u)) := by
  by_cases h : 4 ≤ u ∧ u ≤ 8
  · rcases units h.1 h.2 with rfl | rfl | rfl | rfl | rfl
    · exact ulen4
    · exact ulen5
    · exact ulen6
    · exact ulen7
    · exact ulen8
  · rw [ulen_no (by omega)]
    exact ulen_o u (by omega)
theorem ulimit : Fn 141 [] [] (wv 9007199254740992000000000) := by
  have i1 : I64 9007199254740992 := by unfold I64; omega
  have i2 : I64 1000000000 := by unfold I64; omega
  refine fn_of Try.func141 rfl fun ww => ?_
  refine st_fn ent144 (wmul_f (9007199254740992) (1000000000) (by assumption) (by assumption)) sub0 (by kernel_rfl) ?_
  exact st_retv Try.func141 (show Value.agg #[Value.int IntKind.i64 (hi (9007199254740992 * 1000000000)), Value.int IntKind.u64 (lo (9007199254740992 * 1000000000))] = _ by rfl) (by kernel_rfl)
section
variable (a b c d h mi s n : Int)
theorem utot (i1 : I64 d) (i2 : I64 h) (i3 : I64 mi) (i4 : I64 s) (i5 : I64 n) : Fn 139 [] [duv a b c d h mi s n] (wv (dtot d h mi s n)) := by
  have j1 : I64 86400000000000 := by unfold I64; omega
  have j2 : I64 3600000000000 := by unfold I64; omega
  have j3 : I64 60000000000 := by unfold I64; omega
  have j4 : I64 1000000000 := by unfold I64; omega
  have j5 : I64 1 := by unfold I64; omega
  have k1 := i1; have k2 := i2; have k3 := i3; have k4 := i4; have k5 := i5
  unfold I64 at k1 k2 k3 k4 k5
  refine fn_of Try.func139 rfl fun ww => ?_
  refine ufields_row 0 0 (by kernel_rfl) ?_
  refine st_round (by kernel_rfl) ?_
  refine st_fn ent63 (ulen4) sub0 (by kernel_rfl) ?_
  refine st_fn ent144 (wmul_f (d) (86400000000000) (by assumption) (by assumption)) sub0 (by kernel_rfl) ?_
  refine st_app0w (b2 := 3) (v1 := Value.int IntKind.i64 (hi (d * 86400000000000))) (v2 := Value.int IntKind.u64 (lo (d * 86400000000000))) (by kernel_rfl) (by kernel_rfl) rfl rfl (fun m3 rest3 hm3 hr3 => ?_)
  refine st_i 12 .i64 (x' := 4 + 1) (Go.IntWalk.i64_in _ (by omega)) (by kernel_rfl) ?_
  refine st_round (by kernel_rfl) ?_
  refine st_fn ent63 (ulen5) sub0 (by kernel_rfl) ?_
  refine st_fn ent144 (wmul_f (h) (3600000000000) (by assumption) (by assumption)) sub0 (by kernel_rfl) ?_
  refine st_appw (b := 4) (b2 := 5) (n := 1) (m := m3) (vs := [Value.int IntKind.i64 (hi (d * 86400000000000)), Value.int IntKind.u64 (lo (d * 86400000000000))]) (rest := rest3) (v1 := Value.int IntKind.i64 (hi (h * 3600000000000))) (v2 := Value.int IntKind.u64 (lo (h * 3600000000000))) (by kernel_rfl) (by kernel_rfl) (by kernel_rfl) rfl rfl rfl hr3 hm3 (by omega) (by kernel_rfl) (by kernel_rfl) (fun hm6 rest6 hr6 => ?_) (fun m6 rest6 hm6 hr6 => ?_)
  · have _hh := True.intro
    refine st_i 12 .i64 (x' := 4 + 1 + 1) (Go.IntWalk.i64_in _ (by omega)) (by kernel_rfl) ?_
    refine st_round (by kernel_rfl) ?_
    refine st_fn ent63 (ulen6) sub0 (by kernel_rfl) ?_
    refine st_fn ent144 (wmul_f (mi) (60000000000) (by assumption) (by assumption)) sub0 (by kernel_rfl) ?_
    refine st_appw (b := 4) (b2 := 6) (n := 2) (m := m3) (vs := [Value.int IntKind.i64 (hi (d * 86400000000000)), Value.int IntKind.u64 (lo (d * 86400000000000)), Value.int IntKind.i64 (hi (h * 3600000000000)), Value.int IntKind.u64 (lo (h * 3600000000000))]) (rest := rest6) (v1 := Value.int IntKind.i64 (hi (mi * 60000000000))) (v2 := Value.int IntKind.u64 (lo (mi * 60000000000))) (by kernel_rfl) (by kernel_rfl) (by kernel_rfl) rfl rfl rfl hr6 hm6 (by omega) (by kernel_rfl) (by kernel_rfl) (fun hm9 rest9 hr9 => ?_) (fun m9 rest9 hm9 hr9 => ?_)
    · have _hh := True.intro
      refine st_i 12 .i64 (x' := 4 + 1 + 1 + 1) (Go.IntWalk.i64_in _ (by omega)) (by kernel_rfl) ?_
      refine st_round (by kernel_rfl) ?_
      refine st_fn ent63 (ulen7) sub0 (by kernel_rfl) ?_
      refine st_fn ent144 (wmul_f (s) (1000000000) (by assumption) (by assumption)) sub0 (by kernel_rfl) ?_
      refine st_appw (b := 4) (b2 := 7) (n := 3) (m := m3) (vs := [Value.int IntKind.i64 (hi (d * 86400000000000)), Value.int IntKind.u64 (lo (d * 86400000000000)), Value.int IntKind.i64 (hi (h * 3600000000000)), Value.int IntKind.u64 (lo (h * 3600000000000)), Value.int IntKind.i64 (hi (mi * 60000000000)), Value.int IntKind.u64 (lo (mi * 60000000000))]) (rest := rest9) (v1 := Value.int IntKind.i64 (hi (s * 1000000000))) (v2 := Value.int IntKind.u64 (lo (s * 1000000000))) (by kernel_rfl) (by kernel_rfl) (by kernel_rfl) rfl rfl rfl hr9 hm9 (by omega) (by kernel_rfl) (by kernel_rfl) (fun hm12 rest12 hr12 => ?_) (fun m12 rest12 hm12 hr12 => ?_)
      · have _hh := True.intro
        refine st_i 12 .i64 (x' := 4 + 1 + 1 + 1 + 1) (Go.IntWalk.i64_in _ (by omega)) (by kernel_rfl) ?_
        refine st_round (by kernel_rfl) ?_
        refine st_fn ent63 (ulen8) sub0 (by kernel_rfl) ?_
        refine st_fn ent144 (wmul_f (n) (1) (by assumption) (by assumption)) sub0 (by kernel_rfl) ?_
        refine st_appw (b := 4) (b2 := 8) (n := 4) (m := m3) (vs := [Value.int IntKind.i64 (hi (d * 86400000000000)), Value.int IntKind.u64 (lo (d * 86400000000000)), Value.int IntKind.i64 (hi (h * 3600000000000)), Value.int IntKind.u64 (lo (h * 3600000000000)), Value.int IntKind.i64 (hi (mi * 60000000000)), Value.int IntKind.u64 (lo (mi * 60000000000)), Value.int IntKind.i64 (hi (s * 1000000000)), Value.int IntKind.u64 (lo (s * 1000000000))]) (rest := rest12) (v1 := Value.int IntKind.i64 (hi (n * 1))) (v2 := Value.int IntKind.u64 (lo (n * 1))) (by kernel_rfl) (by kernel_rfl) (by kernel_rfl) rfl rfl rfl hr12 hm12 (by omega) (by kernel_rfl) (by kernel_rfl) (fun hm15 rest15 hr15 => ?_) (fun m15 rest15 hm15 hr15 => ?_)
        · have _hh := True.intro
          refine st_i 12 .i64 (x' := 4 + 1 + 1 + 1 + 1 + 1) (Go.IntWalk.i64_in _ (by omega)) (by kernel_rfl) ?_
          refine st_round (by kernel_rfl) ?_
          refine st_sum5 (b := 4) (m := m3) (n1 := (d * 86400000000000)) (n2 := (h * 3600000000000)) (n3 := (mi * 60000000000)) (n4 := (s * 1000000000)) (n5 := (n * 1)) (rest := rest15) ((d * 86400000000000) + (h * 3600000000000) + (mi * 60000000000) + (s * 1000000000) + (n * 1)) rfl (by first | assumption | (unfold W128; omega)) (by first | assumption | (unfold W128; omega)) (by first | assumption | (unfold W128; omega)) (by first | assumption | (unfold W128; omega)) (by first | assumption | (unfold W128; omega)) (by first | assumption | (unfold W128; omega)) (by kernel_rfl) (by kernel_rfl) ?_
          exact st_retv Try.func139 (show Value.agg #[Value.int IntKind.i64 (hi (d * 86400000000000 + h * 3600000000000 + mi * 60000000000 + s * 1000000000 + n * 1)), Value.int IntKind.u64 (lo (d * 86400000000000 + h * 3600000000000 + mi * 60000000000 + s * 1000000000 + n * 1))] = _ by (unfold dtot; rw [Int.mul_one])) (by kernel_rfl)
        · have _hh := True.intro
          refine st_i 12 .i64 (x' := 4 + 1 + 1 + 1 + 1 + 1) (Go.IntWalk.i64_in _ (by omega)) (by kernel_rfl) ?_
          refine st_round (by kernel_rfl) ?_
          refine st_sum5 (b := 9) (m := m15) (n1 := (d * 86400000000000)) (n2 := (h * 3600000000000)) (n3 := (mi * 60000000000)) (n4 := (s * 1000000000)) (n5 := (n * 1)) (rest := rest15) ((d * 86400000000000) + (h * 3600000000000) + (mi * 60000000000) + (s * 1000000000) + (n * 1)) rfl (by first | assumption | (unfold W128; omega)) (by first | assumption | (unfold W128; omega)) (by first | assumption | (unfold W128; omega)) (by first | assumption | (unfold W128; omega)) (by first | assumption | (unfold W128; omega)) (by first | assumption | (unfold W128; omega)) (by kernel_rfl) (by kernel_rfl) ?_
          exact st_retv Try.func139 (show Value.agg #[Value.int IntKind.i64 (hi (d * 86400000000000 + h * 3600000000000 + mi * 60000000000 + s * 1000000000 + n * 1)), Value.int IntKind.u64 (lo (d * 86400000000000 + h * 3600000000000 + mi * 60000000000 + s * 1000000000 + n * 1))] = _ by (unfold dtot; rw [Int.mul_one])) (by kernel_rfl)
      · have _hh := True.intro
        refine st_i 12 .i64 (x' := 4 + 1 + 1 + 1 + 1) (Go.IntWalk.i64_in _ (by omega)) (by kernel_rfl) ?_
        refine st_round (by kernel_rfl) ?_
        refine st_fn ent63 (ulen8) sub0 (by kernel_rfl) ?_
        refine st_fn ent144 (wmul_f (n) (1) (by assumption) (by assumption)) sub0 (by kernel_rfl) ?_
        refine st_appw (b := 8) (b2 := 9) (n := 4) (m := m12) (vs := [Value.int IntKind.i64 (hi (d * 86400000000000)), Value.int IntKind.u64 (lo (d * 86400000000000)), Value.int IntKind.i64 (hi (h * 3600000000000)), Value.int IntKind.u64 (lo (h * 3600000000000)), Value.int IntKind.i64 (hi (mi * 60000000000)), Value.int IntKind.u64 (lo (mi * 60000000000)), Value.int IntKind.i64 (hi (s * 1000000000)), Value.int IntKind.u64 (lo (s * 1000000000))]) (rest := rest12) (v1 := Value.int IntKind.i64 (hi (n * 1))) (v2 := Value.int IntKind.u64 (lo (n * 1))) (by kernel_rfl) (by kernel_rfl) (by kernel_rfl) rfl rfl rfl hr12 hm12 (by omega) (by kernel_rfl) (by kernel_rfl) (fun hm15 rest15 hr15 => ?_) (fun m15 rest15 hm15 hr15 => ?_)
        · have _hh := True.intro
          refine st_i 12 .i64 (x' := 4 + 1 + 1 + 1 + 1 + 1) (Go.IntWalk.i64_in _ (by omega)) (by kernel_rfl) ?_
          refine st_round (by kernel_rfl) ?_
          refine st_sum5 (b := 8) (m := m12) (n1 := (d * 86400000000000)) (n2 := (h * 3600000000000)) (n3 := (mi * 60000000000)) (n4 := (s * 1000000000)) (n5 := (n * 1)) (rest := rest15) ((d * 86400000000000) + (h * 3600000000000) + (mi * 60000000000) + (s * 1000000000) + (n * 1)) rfl (by first | assumption | (unfold W128; omega)) (by first | assumption | (unfold W128; omega)) (by first | assumption | (unfold W128; omega)) (by first | assumption | (unfold W128; omega)) (by first | assumption | (unfold W128; omega)) (by first | assumption | (unfold W128; omega)) (by kernel_rfl) (by kernel_rfl) ?_
          exact st_retv Try.func139 (show Value.agg #[Value.int IntKind.i64 (hi (d * 86400000000000 + h * 3600000000000 + mi * 60000000000 + s * 1000000000 + n * 1)), Value.int IntKind.u64 (lo (d * 86400000000000 + h * 3600000000000 + mi * 60000000000 + s * 1000000000 + n * 1))] = _ by (unfold dtot; rw [Int.mul_one])) (by kernel_rfl)
        · have _hh := True.intro
          refine st_i 12 .i64 (x' := 4 + 1 + 1 + 1 + 1 + 1) (Go.IntWalk.i64_in _ (by omega)) (by kernel_rfl) ?_
          refine st_round (by kernel_rfl) ?_
          refine st_sum5 (b := 10) (m := m15) (n1 := (d * 86400000000000)) (n2 := (h * 3600000000000)) (n3 := (mi * 60000000000)) (n4 := (s * 1000000000)) (n5 := (n * 1)) (rest := rest15) ((d * 86400000000000) + (h * 3600000000000) + (mi * 60000000000) + (s * 1000000000) + (n * 1)) rfl (by first | assumption | (unfold W128; omega)) (by first | assumption | (unfold W128; omega)) (by first | assumption | (unfold W128; omega)) (by first | assumption | (unfold W128; omega)) (by first | assumption | (unfold W128; omega)) (by first | assumption | (unfold W128; omega)) (by kernel_rfl) (by kernel_rfl) ?_
          exact st_retv Try.func139 (show Value.agg #[Value.int IntKind.i64 (hi (d * 86400000000000 + h * 3600000000000 + mi * 60000000000 + s * 1000000000 + n * 1)), Value.int IntKind.u64 (lo (d * 86400000000000 + h * 3600000000000 + mi * 60000000000 + s * 1000000000 + n * 1))] = _ by (unfold dtot; rw [Int.mul_one])) (by kernel_rfl)
    · have _hh := True.intro
      refine st_i 12 .i64 (x' := 4 + 1 + 1 + 1) (Go.IntWalk.i64_in _ (by omega)) (by kernel_rfl) ?_
      refine st_round (by kernel_rfl) ?_
      refine st_fn ent63 (ulen7) sub0 (by kernel_rfl) ?_
      refine st_fn ent144 (wmul_f (s) (1000000000) (by assumption) (by assumption)) sub0 (by kernel_rfl) ?_
      refine st_appw (b := 7) (b2 := 8) (n := 3) (m := m9) (vs := [Value.int IntKind.i64 (hi (d * 86400000000000)), Value.int IntKind.u64 (lo (d * 86400000000000)), Value.int IntKind.i64 (hi (h * 3600000000000)), Value.int IntKind.u64 (lo (h * 3600000000000)), Value.int IntKind.i64 (hi (mi * 60000000000)), Value.int IntKind.u64 (lo (mi * 60000000000))]) (rest := rest9) (v1 := Value.int IntKind.i64 (hi (s * 1000000000))) (v2 := Value.int IntKind.u64 (lo (s * 1000000000))) (by kernel_rfl) (by kernel_rfl) (by kernel_rfl) rfl rfl rfl hr9 hm9 (by omega) (by kernel_rfl) (by kernel_rfl) (fun hm12 rest12 hr12 => ?_) (fun m12 rest12 hm12 hr12 => ?_)
      · have _hh := True.intro
        refine st_i 12 .i64 (x' := 4 + 1 + 1 + 1 + 1) (Go.IntWalk.i64_in _ (by omega)) (by kernel_rfl) ?_
        refine st_round (by kernel_rfl) ?_
        refine st_fn ent63 (ulen8) sub0 (by kernel_rfl) ?_
        refine st_fn ent144 (wmul_f (n) (1) (by assumption) (by assumption)) sub0 (by kernel_rfl) ?_
        refine st_appw (b := 7) (b2 := 9) (n := 4) (m := m9) (vs := [Value.int IntKind.i64 (hi (d * 86400000000000)), Value.int IntKind.u64 (lo (d * 86400000000000)), Value.int IntKind.i64 (hi (h * 3600000000000)), Value.int IntKind.u64 (lo (h * 3600000000000)), Value.int IntKind.i64 (hi (mi * 60000000000)), Value.int IntKind.u64 (lo (mi * 60000000000)), Value.int IntKind.i64 (hi (s * 1000000000)), Value.int IntKind.u64 (lo (s * 1000000000))]) (rest := rest12) (v1 := Value.int IntKind.i64 (hi (n * 1))) (v2 := Value.int IntKind.u64 (lo (n * 1))) (by kernel_rfl) (by kernel_rfl) (by kernel_rfl) rfl rfl rfl hr12 hm12 (by omega) (by kernel_rfl) (by kernel_rfl) (fun hm15 rest15 hr15 => ?_) (fun m15 rest15 hm15 hr15 => ?_)
        · have _hh := True.intro
          refine st_i 12 .i64 (x' := 4 + 1 + 1 + 1 + 1 + 1) (Go.IntWalk.i64_in _ (by omega)) (by kernel_rfl) ?_
          refine st_round (by kernel_rfl) ?_
          refine st_sum5 (b := 7) (m := m9) (n1 := (d * 86400000000000)) (n2 := (h * 3600000000000)) (n3 := (mi * 60000000000)) (n4 := (s * 1000000000)) (n5 := (n * 1)) (rest := rest15) ((d * 86400000000000) + (h * 3600000000000) + (mi * 60000000000) + (s * 1000000000) + (n * 1)) rfl (by first | assumption | (unfold W128; omega)) (by first | assumption | (unfold W128; omega)) (by first | assumption | (unfold W128; omega)) (by first | assumption | (unfold W128; omega)) (by first | assumption | (unfold W128; omega)) (by first | assumption | (unfold W128; omega)) (by kernel_rfl) (by kernel_rfl) ?_
          exact st_retv Try.func139 (show Value.agg #[Value.int IntKind.i64 (hi (d * 86400000000000 + h * 3600000000000 + mi * 60000000000 + s * 1000000000 + n * 1)), Value.int IntKind.u64 (lo (d * 86400000000000 + h * 3600000000000 + mi * 60000000000 + s * 1000000000 + n * 1))] = _ by (unfold dtot; rw [Int.mul_one])) (by kernel_rfl)
        · have _hh := True.intro
          refine st_i 12 .i64 (x' := 4 + 1 + 1 + 1 + 1 + 1) (Go.IntWalk.i64_in _ (by omega)) (by kernel_rfl) ?_
          refine st_round (by kernel_rfl) ?_
          refine st_sum5 (b := 10) (m := m15) (n1 := (d * 86400000000000)) (n2 := (h * 3600000000000)) (n3 := (mi * 60000000000)) (n4 := (s * 1000000000)) (n5 := (n * 1)) (rest := rest15) ((d * 86400000000000) + (h * 3600000000000) + (mi * 60000000000) + (s * 1000000000) + (n * 1)) rfl (by first | assumption | (unfold W128; omega)) (by first | assumption | (unfold W128; omega)) (by first | assumption | (unfold W128; omega)) (by first | assumption | (unfold W128; omega)) (by first | assumption | (unfold W128; omega)) (by first | assumption | (unfold W128; omega)) (by kernel_rfl) (by kernel_rfl) ?_
          exact st_retv Try.func139 (show Value.agg #[Value.int IntKind.i64 (hi (d * 86400000000000 + h * 3600000000000 + mi * 60000000000 + s * 1000000000 + n * 1)), Value.int IntKind.u64 (lo (d * 86400000000000 + h * 3600000000000 + mi * 60000000000 + s * 1000000000 + n * 1))] = _ by (unfold dtot; rw [Int.mul_one])) (by kernel_rfl)
      · have _hh := True.intro
        refine st_i 12 .i64 (x' := 4 + 1 + 1 + 1 + 1) (Go.IntWalk.i64_in _ (by omega)) (by kernel_rfl) ?_
        refine st_round (by kernel_rfl) ?_
        refine st_fn ent63 (ulen8) sub0 (by kernel_rfl) ?_
        refine st_fn ent144 (wmul_f (n) (1) (by assumption) (by assumption)) sub0 (by kernel_rfl) ?_
        refine st_appw (b := 9) (b2 := 10) (n := 4) (m := m12) (vs := [Value.int IntKind.i64 (hi (d * 86400000000000)), Value.int IntKind.u64 (lo (d * 86400000000000)), Value.int IntKind.i64 (hi (h * 3600000000000)), Value.int IntKind.u64 (lo (h * 3600000000000)), Value.int IntKind.i64 (hi (mi * 60000000000)), Value.int IntKind.u64 (lo (mi * 60000000000)), Value.int IntKind.i64 (hi (s * 1000000000)), Value.int IntKind.u64 (lo (s * 1000000000))]) (rest := rest12) (v1 := Value.int IntKind.i64 (hi (n * 1))) (v2 := Value.int IntKind.u64 (lo (n * 1))) (by kernel_rfl) (by kernel_rfl) (by kernel_rfl) rfl rfl rfl hr12 hm12 (by omega) (by kernel_rfl) (by kernel_rfl) (fun hm15 rest15 hr15 => ?_) (fun m15 rest15 hm15 hr15 => ?_)
        · have _hh := True.intro
          refine st_i 12 .i64 (x' := 4 + 1 + 1 + 1 + 1 + 1) (Go.IntWalk.i64_in _ (by omega)) (by kernel_rfl) ?_
          refine st_round (by kernel_rfl) ?_
          refine st_sum5 (b := 9) (m := m12) (n1 := (d * 86400000000000)) (n2 := (h * 3600000000000)) (n3 := (mi * 60000000000)) (n4 := (s * 1000000000)) (n5 := (n * 1)) (rest := rest15) ((d * 86400000000000) + (h * 3600000000000) + (mi * 60000000000) + (s * 1000000000) + (n * 1)) rfl (by first | assumption | (unfold W128; omega)) (by first | assumption | (unfold W128; omega)) (by first | assumption | (unfold W128; omega)) (by first | assumption | (unfold W128; omega)) (by first | assumption | (unfold W128; omega)) (by first | assumption | (unfold W128; omega)) (by kernel_rfl) (by kernel_rfl) ?_
          exact st_retv Try.func139 (show Value.agg #[Value.int IntKind.i64 (hi (d * 86400000000000 + h * 3600000000000 + mi * 60000000000 + s * 1000000000 + n * 1)), Value.int IntKind.u64 (lo (d * 86400000000000 + h * 3600000000000 + mi * 60000000000 + s * 1000000000 + n * 1))] = _ by (unfold dtot; rw [Int.mul_one])) (by kernel_rfl)
        · have _hh := True.intro
          refine st_i 12 .i64 (x' := 4 + 1 + 1 + 1 + 1 + 1) (Go.IntWalk.i64_in _ (by omega)) (by kernel_rfl) ?_
          refine st_round (by kernel_rfl) ?_
          refine st_sum5 (b := 11) (m := m15) (n1 := (d * 86400000000000)) (n2 := (h * 3600000000000)) (n3 := (mi * 60000000000)) (n4 := (s * 1000000000)) (n5 := (n * 1)) (rest := rest15) ((d * 86400000000000) + (h * 3600000000000) + (mi * 60000000000) + (s * 1000000000) + (n * 1)) rfl (by first | assumption | (unfold W128; omega)) (by first | assumption | (unfold W128; omega)) (by first | assumption | (unfold W128; omega)) (by first | assumption | (unfold W128; omega)) (by first | assumption | (unfold W128; omega)) (by first | assumption | (unfold W128; omega)) (by kernel_rfl) (by kernel_rfl) ?_
          exact st_retv Try.func139 (show Value.agg #[Value.int IntKind.i64 (hi (d * 86400000000000 + h * 3600000000000 + mi * 60000000000 + s * 1000000000 + n * 1)), Value.int IntKind.u64 (lo (d * 86400000000000 + h * 3600000000000 + mi * 60000000000 + s * 1000000000 + n * 1))] = _ by (unfold dtot; rw [Int.mul_one])) (by kernel_rfl)
  · have _hh := True.intro
    refine st_i 12 .i64 (x' := 4 + 1 + 1) (Go.IntWalk.i64_in _ (by omega)) (by kernel_rfl) ?_
    refine st_round (by kernel_rfl) ?_
    refine st_fn ent63 (ulen6) sub0 (by kernel_rfl) ?_
    refine st_fn ent144 (wmul_f (mi) (60000000000) (by assumption) (by assumption)) sub0 (by kernel_rfl) ?_
    refine st_appw (b := 6) (b2 := 7) (n := 2) (m := m6) (vs := [Value.int IntKind.i64 (hi (d * 86400000000000)), Value.int IntKind.u64 (lo (d * 86400000000000)), Value.int IntKind.i64 (hi (h * 3600000000000)), Value.int IntKind.u64 (lo (h * 3600000000000))]) (rest := rest6) (v1 := Value.int IntKind.i64 (hi (mi * 60000000000))) (v2 := Value.int IntKind.u64 (lo (mi * 60000000000))) (by kernel_rfl) (by kernel_rfl) (by kernel_rfl) rfl rfl rfl hr6 hm6 (by omega) (by kernel_rfl) (by kernel_rfl) (fun hm9 rest9 hr9 => ?_) (fun m9 rest9 hm9 hr9 => ?_)
    · have _hh := True.intro
      refine st_i 12 .i64 (x' := 4 + 1 + 1 + 1) (Go.IntWalk.i64_in _ (by omega)) (by kernel_rfl) ?_
      refine st_round (by kernel_rfl) ?_
      refine st_fn ent63 (ulen7) sub0 (by kernel_rfl) ?_
      refine st_fn ent144 (wmul_f (s) (1000000000) (by assumption) (by assumption)) sub0 (by kernel_rfl) ?_
      refine st_appw (b := 6) (b2 := 8) (n := 3) (m := m6) (vs := [Value.int IntKind.i64 (hi (d * 86400000000000)), Value.int IntKind.u64 (lo (d * 86400000000000)), Value.int IntKind.i64 (hi (h * 3600000000000)), Value.int IntKind.u64 (lo (h * 3600000000000)), Value.int IntKind.i64 (hi (mi * 60000000000)), Value.int IntKind.u64 (lo (mi * 60000000000))]) (rest := rest9) (v1 := Value.int IntKind.i64 (hi (s * 1000000000))) (v2 := Value.int IntKind.u64 (lo (s * 1000000000))) (by kernel_rfl) (by kernel_rfl) (by kernel_rfl) rfl rfl rfl hr9 hm9 (by omega) (by kernel_rfl) (by kernel_rfl) (fun hm12 rest12 hr12 => ?_) (fun m12 rest12 hm12 hr12 => ?_)
      · have _hh := True.intro
        refine st_i 12 .i64 (x' := 4 + 1 + 1 + 1 + 1) (Go.IntWalk.i64_in _ (by omega)) (by kernel_rfl) ?_
        refine st_round (by kernel_rfl) ?_
        refine st_fn ent63 (ulen8) sub0 (by kernel_rfl) ?_
        refine st_fn ent144 (wmul_f (n) (1) (by assumption) (by assumption)) sub0 (by kernel_rfl) ?_
        refine st_appw (b := 6) (b2 := 9) (n := 4) (m := m6) (vs := [Value.int IntKind.i64 (hi (d * 86400000000000)), Value.int IntKind.u64 (lo (d * 86400000000000)), Value.int IntKind.i64 (hi (h * 3600000000000)), Value.int IntKind.u64 (lo (h * 3600000000000)), Value.int IntKind.i64 (hi (mi * 60000000000)), Value.int IntKind.u64 (lo (mi * 60000000000)), Value.int IntKind.i64 (hi (s * 1000000000)), Value.int IntKind.u64 (lo (s * 1000000000))]) (rest := rest12) (v1 := Value.int IntKind.i64 (hi (n * 1))) (v2 := Value.int IntKind.u64 (lo (n * 1))) (by kernel_rfl) (by kernel_rfl) (by kernel_rfl) rfl rfl rfl hr12 hm12 (by omega) (by kernel_rfl) (by kernel_rfl) (fun hm15 rest15 hr15 => ?_) (fun m15 rest15 hm15 hr15 => ?_)
        · have _hh := True.intro
          refine st_i 12 .i64 (x' := 4 + 1 + 1 + 1 + 1 + 1) (Go.IntWalk.i64_in _ (by omega)) (by kernel_rfl) ?_
          refine st_round (by kernel_rfl) ?_
          refine st_sum5 (b := 6) (m := m6) (n1 := (d * 86400000000000)) (n2 := (h * 3600000000000)) (n3 := (mi * 60000000000)) (n4 := (s * 1000000000)) (n5 := (n * 1)) (rest := rest15) ((d * 86400000000000) + (h * 3600000000000) + (mi * 60000000000) + (s * 1000000000) + (n * 1)) rfl (by first | assumption | (unfold W128; omega)) (by first | assumption | (unfold W128; omega)) (by first | assumption | (unfold W128; omega)) (by first | assumption | (unfold W128; omega)) (by first | assumption | (unfold W128; omega)) (by first | assumption | (unfold W128; omega)) (by kernel_rfl) (by kernel_rfl) ?_
          exact st_retv Try.func139 (show Value.agg #[Value.int IntKind.i64 (hi (d * 86400000000000 + h * 3600000000000 + mi * 60000000000 + s * 1000000000 + n * 1)), Value.int IntKind.u64 (lo (d * 86400000000000 + h * 3600000000000 + mi * 60000000000 + s * 1000000000 + n * 1))] = _ by (unfold dtot; rw [Int.mul_one])) (by kernel_rfl)
        · have _hh := True.intro
          refine st_i 12 .i64 (x' := 4 + 1 + 1 + 1 + 1 + 1) (Go.IntWalk.i64_in _ (by omega)) (by kernel_rfl) ?_
          refine st_round (by kernel_rfl) ?_
          refine st_sum5 (b := 10) (m := m15) (n1 := (d * 86400000000000)) (n2 := (h * 3600000000000)) (n3 := (mi * 60000000000)) (n4 := (s * 1000000000)) (n5 := (n * 1)) (rest := rest15) ((d * 86400000000000) + (h * 3600000000000) + (mi * 60000000000) + (s * 1000000000) + (n * 1)) rfl (by first | assumption | (unfold W128; omega)) (by first | assumption | (unfold W128; omega)) (by first | assumption | (unfold W128; omega)) (by first | assumption | (unfold W128; omega)) (by first | assumption | (unfold W128; omega)) (by first | assumption | (unfold W128; omega)) (by kernel_rfl) (by kernel_rfl) ?_
          exact st_retv Try.func139 (show Value.agg #[Value.int IntKind.i64 (hi (d * 86400000000000 + h * 3600000000000 + mi * 60000000000 + s * 1000000000 + n * 1)), Value.int IntKind.u64 (lo (d * 86400000000000 + h * 3600000000000 + mi * 60000000000 + s * 1000000000 + n * 1))] = _ by (unfold dtot; rw [Int.mul_one])) (by kernel_rfl)
      · have _hh := True.intro
        refine st_i 12 .i64 (x' := 4 + 1 + 1 + 1 + 1) (Go.IntWalk.i64_in _ (by omega)) (by kernel_rfl) ?_
        refine st_round (by kernel_rfl) ?_
        refine st_fn ent63 (ulen8) sub0 (by kernel_rfl) ?_
        refine st_fn ent144 (wmul_f (n) (1) (by assumption) (by assumption)) sub0 (by kernel_rfl) ?_
        refine st_appw (b := 9) (b2 := 10) (n := 4) (m := m12) (vs := [Value.int IntKind.i64 (hi (d * 86400000000000)), Value.int IntKind.u64 (lo (d * 86400000000000)), Value.int IntKind.i64 (hi (h * 3600000000000)), Value.int IntKind.u64 (lo (h * 3600000000000)), Value.int IntKind.i64 (hi (mi * 60000000000)), Value.int IntKind.u64 (lo (mi * 60000000000)), Value.int IntKind.i64 (hi (s * 1000000000)), Value.int IntKind.u64 (lo (s * 1000000000))]) (rest := rest12) (v1 := Value.int IntKind.i64 (hi (n * 1))) (v2 := Value.int IntKind.u64 (lo (n * 1))) (by kernel_rfl) (by kernel_rfl) (by kernel_rfl) rfl rfl rfl hr12 hm12 (by omega) (by kernel_rfl) (by kernel_rfl) (fun hm15 rest15 hr15 => ?_) (fun m15 rest15 hm15 hr15 => ?_)
        · have _hh := True.intro
          refine st_i 12 .i64 (x' := 4 + 1 + 1 + 1 + 1 + 1) (Go.IntWalk.i64_in _ (by omega)) (by kernel_rfl) ?_
          refine st_round (by kernel_rfl) ?_
          refine st_sum5 (b := 9) (m := m12) (n1 := (d * 86400000000000)) (n2 := (h * 3600000000000)) (n3 := (mi * 60000000000)) (n4 := (s * 1000000000)) (n5 := (n * 1)) (rest := rest15) ((d * 86400000000000) + (h * 3600000000000) + (mi * 60000000000) + (s * 1000000000) + (n * 1)) rfl (by first | assumption | (unfold W128; omega)) (by first | assumption | (unfold W128; omega)) (by first | assumption | (unfold W128; omega)) (by first | assumption | (unfold W128; omega)) (by first | assumption | (unfold W128; omega)) (by first | assumption | (unfold W128; omega)) (by kernel_rfl) (by kernel_rfl) ?_
          exact st_retv Try.func139 (show Value.agg #[Value.int IntKind.i64 (hi (d * 86400000000000 + h * 3600000000000 + mi * 60000000000 + s * 1000000000 + n * 1)), Value.int IntKind.u64 (lo (d * 86400000000000 + h * 3600000000000 + mi * 60000000000 + s * 1000000000 + n * 1))] = _ by (unfold dtot; rw [Int.mul_one])) (by kernel_rfl)
        · have _hh := True.intro
          refine st_i 12 .i64 (x' := 4 + 1 + 1 + 1 + 1 + 1) (Go.IntWalk.i64_in _ (by omega)) (by kernel_rfl) ?_
          refine st_round (by kernel_rfl) ?_
          refine st_sum5 (b := 11) (m := m15) (n1 := (d * 86400000000000)) (n2 := (h * 3600000000000)) (n3 := (mi * 60000000000)) (n4 := (s * 1000000000)) (n5 := (n * 1)) (rest := rest15) ((d * 86400000000000) + (h * 3600000000000) + (mi * 60000000000) + (s * 1000000000) + (n * 1)) rfl (by first | assumption | (unfold W128; omega)) (by first | assumption | (unfold W128; omega)) (by first | assumption | (unfold W128; omega)) (by first | assumption | (unfold W128; omega)) (by first | assumption | (unfold W128; omega)) (by first | assumption | (unfold W128; omega)) (by kernel_rfl) (by kernel_rfl) ?_
          exact st_retv Try.func139 (show Value.agg #[Value.int IntKind.i64 (hi (d * 86400000000000 + h * 3600000000000 + mi * 60000000000 + s * 1000000000 + n * 1)), Value.int IntKind.u64 (lo (d * 86400000000000 + h * 3600000000000 + mi * 60000000000 + s * 1000000000 + n * 1))] = _ by (unfold dtot; rw [Int.mul_one])) (by kernel_rfl)
    · have _hh := True.intro
      refine st_i 12 .i64 (x' := 4 + 1 + 1 + 1) (Go.IntWalk.i64_in _ (by omega)) (by kernel_rfl) ?_
      refine st_round (by kernel_rfl) ?_
      refine st_fn ent63 (ulen7) sub0 (by kernel_rfl) ?_
      refine st_fn ent144 (wmul_f (s) (1000000000) (by assumption) (by assumption)) sub0 (by kernel_rfl) ?_
      refine st_appw (b := 8) (b2 := 9) (n := 3) (m := m9) (vs := [Value.int IntKind.i64 (hi (d * 86400000000000)), Value.int IntKind.u64 (lo (d * 86400000000000)), Value.int IntKind.i64 (hi (h * 3600000000000)), Value.int IntKind.u64 (lo (h * 3600000000000)), Value.int IntKind.i64 (hi (mi * 60000000000)), Value.int IntKind.u64 (lo (mi * 60000000000))]) (rest := rest9) (v1 := Value.int IntKind.i64 (hi (s * 1000000000))) (v2 := Value.int IntKind.u64 (lo (s * 1000000000))) (by kernel_rfl) (by kernel_rfl) (by kernel_rfl) rfl rfl rfl hr9 hm9 (by omega) (by kernel_rfl) (by kernel_rfl) (fun hm12 rest12 hr12 => ?_) (fun m12 rest12 hm12 hr12 => ?_)
      · have _hh := True.intro
        refine st_i 12 .i64 (x' := 4 + 1 + 1 + 1 + 1) (Go.IntWalk.i64_in _ (by omega)) (by kernel_rfl) ?_
        refine st_round (by kernel_rfl) ?_
        refine st_fn ent63 (ulen8) sub0 (by kernel_rfl) ?_
        refine st_fn ent144 (wmul_f (n) (1) (by assumption) (by assumption)) sub0 (by kernel_rfl) ?_
        refine st_appw (b := 8) (b2 := 10) (n := 4) (m := m9) (vs := [Value.int IntKind.i64 (hi (d * 86400000000000)), Value.int IntKind.u64 (lo (d * 86400000000000)), Value.int IntKind.i64 (hi (h * 3600000000000)), Value.int IntKind.u64 (lo (h * 3600000000000)), Value.int IntKind.i64 (hi (mi * 60000000000)), Value.int IntKind.u64 (lo (mi * 60000000000)), Value.int IntKind.i64 (hi (s * 1000000000)), Value.int IntKind.u64 (lo (s * 1000000000))]) (rest := rest12) (v1 := Value.int IntKind.i64 (hi (n * 1))) (v2 := Value.int IntKind.u64 (lo (n * 1))) (by kernel_rfl) (by kernel_rfl) (by kernel_rfl) rfl rfl rfl hr12 hm12 (by omega) (by kernel_rfl) (by kernel_rfl) (fun hm15 rest15 hr15 => ?_) (fun m15 rest15 hm15 hr15 => ?_)
        · have _hh := True.intro
          refine st_i 12 .i64 (x' := 4 + 1 + 1 + 1 + 1 + 1) (Go.IntWalk.i64_in _ (by omega)) (by kernel_rfl) ?_
          refine st_round (by kernel_rfl) ?_
          refine st_sum5 (b := 8) (m := m9) (n1 := (d * 86400000000000)) (n2 := (h * 3600000000000)) (n3 := (mi * 60000000000)) (n4 := (s * 1000000000)) (n5 := (n * 1)) (rest := rest15) ((d * 86400000000000) + (h * 3600000000000) + (mi * 60000000000) + (s * 1000000000) + (n * 1)) rfl (by first | assumption | (unfold W128; omega)) (by first | assumption | (unfold W128; omega)) (by first | assumption | (unfold W128; omega)) (by first | assumption | (unfold W128; omega)) (by first | assumption | (unfold W128; omega)) (by first | assumption | (unfold W128; omega)) (by kernel_rfl) (by kernel_rfl) ?_
          exact st_retv Try.func139 (show Value.agg #[Value.int IntKind.i64 (hi (d * 86400000000000 + h * 3600000000000 + mi * 60000000000 + s * 1000000000 + n * 1)), Value.int IntKind.u64 (lo (d * 86400000000000 + h * 3600000000000 + mi * 60000000000 + s * 1000000000 + n * 1))] = _ by (unfold dtot; rw [Int.mul_one])) (by kernel_rfl)
        · have _hh := True.intro
          refine st_i 12 .i64 (x' := 4 + 1 + 1 + 1 + 1 + 1) (Go.IntWalk.i64_in _ (by omega)) (by kernel_rfl) ?_
          refine st_round (by kernel_rfl) ?_
          refine st_sum5 (b := 11) (m := m15) (n1 := (d * 86400000000000)) (n2 := (h * 3600000000000)) (n3 := (mi * 60000000000)) (n4 := (s * 1000000000)) (n5 := (n * 1)) (rest := rest15) ((d * 86400000000000) + (h * 3600000000000) + (mi * 60000000000) + (s * 1000000000) + (n * 1)) rfl (by first | assumption | (unfold W128; omega)) (by first | assumption | (unfold W128; omega)) (by first | assumption | (unfold W128; omega)) (by first | assumption | (unfold W128; omega)) (by first | assumption | (unfold W128; omega)) (by first | assumption | (unfold W128; omega)) (by kernel_rfl) (by kernel_rfl) ?_
          exact st_retv Try.func139 (show Value.agg #[Value.int IntKind.i64 (hi (d * 86400000000000 + h * 3600000000000 + mi * 60000000000 + s * 1000000000 + n * 1)), Value.int IntKind.u64 (lo (d * 86400000000000 + h * 3600000000000 + mi * 60000000000 + s * 1000000000 + n * 1))] = _ by (unfold dtot; rw [Int.mul_one])) (by kernel_rfl)
      · have _hh := True.intro
        refine st_i 12 .i64 (x' := 4 + 1 + 1 + 1 + 1) (Go.IntWalk.i64_in _ (by omega)) (by kernel_rfl) ?_
        refine st_round (by kernel_rfl) ?_
        refine st_fn ent63 (ulen8) sub0 (by kernel_rfl) ?_
        refine st_fn ent144 (wmul_f (n) (1) (by assumption) (by assumption)) sub0 (by kernel_rfl) ?_
        refine st_appw (b := 10) (b2 := 11) (n := 4) (m := m12) (vs := [Value.int IntKind.i64 (hi (d * 86400000000000)), Value.int IntKind.u64 (lo (d * 86400000000000)), Value.int IntKind.i64 (hi (h * 3600000000000)), Value.int IntKind.u64 (lo (h * 3600000000000)), Value.int IntKind.i64 (hi (mi * 60000000000)), Value.int IntKind.u64 (lo (mi * 60000000000)), Value.int IntKind.i64 (hi (s * 1000000000)), Value.int IntKind.u64 (lo (s * 1000000000))]) (rest := rest12) (v1 := Value.int IntKind.i64 (hi (n * 1))) (v2 := Value.int IntKind.u64 (lo (n * 1))) (by kernel_rfl) (by kernel_rfl) (by kernel_rfl) rfl rfl rfl hr12 hm12 (by omega) (by kernel_rfl) (by kernel_rfl) (fun hm15 rest15 hr15 => ?_) (fun m15 rest15 hm15 hr15 => ?_)
        · have _hh := True.intro
          refine st_i 12 .i64 (x' := 4 + 1 + 1 + 1 + 1 + 1) (Go.IntWalk.i64_in _ (by omega)) (by kernel_rfl) ?_
          refine st_round (by kernel_rfl) ?_
          refine st_sum5 (b := 10) (m := m12) (n1 := (d * 86400000000000)) (n2 := (h * 3600000000000)) (n3 := (mi * 60000000000)) (n4 := (s * 1000000000)) (n5 := (n * 1)) (rest := rest15) ((d * 86400000000000) + (h * 3600000000000) + (mi * 60000000000) + (s * 1000000000) + (n * 1)) rfl (by first | assumption | (unfold W128; omega)) (by first | assumption | (unfold W128; omega)) (by first | assumption | (unfold W128; omega)) (by first | assumption | (unfold W128; omega)) (by first | assumption | (unfold W128; omega)) (by first | assumption | (unfold W128; omega)) (by kernel_rfl) (by kernel_rfl) ?_
          exact st_retv Try.func139 (show Value.agg #[Value.int IntKind.i64 (hi (d * 86400000000000 + h * 3600000000000 + mi * 60000000000 + s * 1000000000 + n * 1)), Value.int IntKind.u64 (lo (d * 86400000000000 + h * 3600000000000 + mi * 60000000000 + s * 1000000000 + n * 1))] = _ by (unfold dtot; rw [Int.mul_one])) (by kernel_rfl)
        · have _hh := True.intro
          refine st_i 12 .i64 (x' := 4 + 1 + 1 + 1 + 1 + 1) (Go.IntWalk.i64_in _ (by omega)) (by kernel_rfl) ?_
          refine st_round (by kernel_rfl) ?_
          refine st_sum5 (b := 12) (m := m15) (n1 := (d * 86400000000000)) (n2 := (h * 3600000000000)) (n3 := (mi * 60000000000)) (n4 := (s * 1000000000)) (n5 := (n * 1)) (rest := rest15) ((d * 86400000000000) + (h * 3600000000000) + (mi * 60000000000) + (s * 1000000000) + (n * 1)) rfl (by first | assumption | (unfold W128; omega)) (by first | assumption | (unfold W128; omega)) (by first | assumption | (unfold W128; omega)) (by first | assumption | (unfold W128; omega)) (by first | assumption | (unfold W128; omega)) (by first | assumption | (unfold W128; omega)) (by kernel_rfl) (by kernel_rfl) ?_
          exact st_retv Try.func139 (show Value.agg #[Value.int IntKind.i64 (hi (d * 86400000000000 + h * 3600000000000 + mi * 60000000000 + s * 1000000000 + n * 1)), Value.int IntKind.u64 (lo (d * 86400000000000 + h * 3600000000000 + mi * 60000000000 + s * 1000000000 + n * 1))] = _ by (unfold dtot; rw [Int.mul_one])) (by kernel_rfl)
end
end Go.Proofs.Ytcndfpfjckkinaa
end
section
/-
  What lies between two days, and between two date-times; no program in sight.
-/
set_option linter.unusedVariables false
namespace Go.Proofs.Ytcndfpfjckkinaa

section
variable (L y m d y' m' d' : Int)
def uS : Int := cmp3 y' m' d' y m d
end
end Go.Proofs.Ytcndfpfjckkinaa
end
section
/-
  What lies between two date-times; no program in sight.
-/
set_option linter.unusedVariables false
namespace Go.Proofs.Ytcndfpfjckkinaa

section
variable (y mo d h m s n y' mo' d' h' m' s' n' : Int)
/-- A day more, where the times stand against the days. -/
def bX : Int := if (tnan h' m' s' n' - tnan h m s n) * uS y mo d y' mo' d' < 0 then uS y mo d y' mo' d' else 0
end
end Go.Proofs.Ytcndfpfjckkinaa
end
section
/-
  Durations: signs, units, what may be, as the program and the reference reckon them.
-/
set_option linter.unusedVariables false
set_option maxRecDepth 100000
namespace Go.Proofs.Ytcndfpfjckkinaa
open Go Go.RowKit Go.Ev

theorem cmpI_sg (x : Int) : (cmpI x 0 = 1 ∧ 0 < x) ∨ (cmpI x 0 = 0 ∧ x = 0) ∨ (cmpI x 0 = -1 ∧ x < 0) := by unfold cmpI; split <;> (try split) <;> omega
theorem cmpI_lt0 {a b : Int} : cmpI a b < 0 ↔ a < b := by unfold cmpI; split <;> (try split) <;> omega
/-- The k-th field. -/
def fl8 (a b c d h mi s n k : Int) : Int := if k = 1 then a else if k = 2 then b else if k = 3 then c else if k = 4 then d else if k = 5 then h else if k = 6 then mi else if k = 7 then s else n
def all64 (a b c d h mi s n : Int) : Prop := I64 a ∧ I64 b ∧ I64 c ∧ I64 d ∧ I64 h ∧ I64 mi ∧ I64 s ∧ I64 n
section
variable (a b c d h mi s n : Int)
theorem usign (i : all64 a b c d h mi s n) : Fn 61 [] [duv a b c d h mi s n] (.int .i64 (sg8 a b c d h mi s n)) := by
  obtain ⟨i1, i2, i3, i4, i5, i6, i7, i8⟩ := i
  refine fn_of Try.func61 rfl fun ww => ?_
  refine ufields_row 0 0 (by kernel_rfl) ?_
  refine st_round (by kernel_rfl) ?_
  by_cases k15 : a ≠ 0
  · refine st_b 15 (bne_iff_ne.2 k15) (by kernel_rfl) ?_
    refine st_fn ent51 (wof_fn (a) (by assumption)) sub0 (by kernel_rfl) ?_
    refine st_fn ent48 (wsign_fn (a)) sub0 (by kernel_rfl) ?_
    exact st_retv Try.func61 (show Value.int IntKind.i64 (cmpI a 0) = _ by (refine i_eq ?_; unfold sg8; simp_all)) (by kernel_rfl)
  · refine st_b 15 (bne_eq_false_iff_eq.2 (Classical.not_not.1 k15)) (by kernel_rfl) ?_
    refine st_i 21 .i64 (x' := 0 + 1) (Go.IntWalk.i64_in _ (by omega)) (by kernel_rfl) ?_
    refine st_round (by kernel_rfl) ?_
    by_cases k15 : b ≠ 0
    · refine st_b 15 (bne_iff_ne.2 k15) (by kernel_rfl) ?_
      refine st_fn ent51 (wof_fn (b) (by assumption)) sub0 (by kernel_rfl) ?_
      refine st_fn ent48 (wsign_fn (b)) sub0 (by kernel_rfl) ?_
      exact st_retv Try.func61 (show Value.int IntKind.i64 (cmpI b 0) = _ by (refine i_eq ?_; unfold sg8; simp_all)) (by kernel_rfl)
    · refine st_b 15 (bne_eq_false_iff_eq.2 (Classical.not_not.1 k15)) (by kernel_rfl) ?_
      refine st_i 21 .i64 (x' := 0 + 1 + 1) (Go.IntWalk.i64_in _ (by omega)) (by kernel_rfl) ?_
      refine st_round (by kernel_rfl) ?_
      by_cases k15 : c ≠ 0
      · refine st_b 15 (bne_iff_ne.2 k15) (by kernel_rfl) ?_
        refine st_fn ent51 (wof_fn (c) (by assumption)) sub0 (by kernel_rfl) ?_
        refine st_fn ent48 (wsign_fn (c)) sub0 (by kernel_rfl) ?_
        exact st_retv Try.func61 (show Value.int IntKind.i64 (cmpI c 0) = _ by (refine i_eq ?_; unfold sg8; simp_all)) (by kernel_rfl)
      · refine st_b 15 (bne_eq_false_iff_eq.2 (Classical.not_not.1 k15)) (by kernel_rfl) ?_
        refine st_i 21 .i64 (x' := 0 + 1 + 1 + 1) (Go.IntWalk.i64_in _ (by omega)) (by kernel_rfl) ?_
        refine st_round (by kernel_rfl) ?_
        by_cases k15 : d ≠ 0
        · refine st_b 15 (bne_iff_ne.2 k15) (by kernel_rfl) ?_
          refine st_fn ent51 (wof_fn (d) (by assumption)) sub0 (by kernel_rfl) ?_
          refine st_fn ent48 (wsign_fn (d)) sub0 (by kernel_rfl) ?_
          exact st_retv Try.func61 (show Value.int IntKind.i64 (cmpI d 0) = _ by (refine i_eq ?_; unfold sg8; simp_all)) (by kernel_rfl)
        · refine st_b 15 (bne_eq_false_iff_eq.2 (Classical.not_not.1 k15)) (by kernel_rfl) ?_
          refine st_i 21 .i64 (x' := 0 + 1 + 1 + 1 + 1) (Go.IntWalk.i64_in _ (by omega)) (by kernel_rfl) ?_
          refine st_round (by kernel_rfl) ?_
          by_cases k15 : h ≠ 0
          · refine st_b 15 (bne_iff_ne.2 k15) (by kernel_rfl) ?_
            refine st_fn ent51 (wof_fn (h) (by assumption)) sub0 (by kernel_rfl) ?_
            refine st_fn ent48 (wsign_fn (h)) sub0 (by kernel_rfl) ?_
            exact st_retv Try.func61 (show Value.int IntKind.i64 (cmpI h 0) = _ by (refine i_eq ?_; unfold sg8; simp_all)) (by kernel_rfl)
          · refine st_b 15 (bne_eq_false_iff_eq.2 (Classical.not_not.1 k15)) (by kernel_rfl) ?_
            refine st_i 21 .i64 (x' := 0 + 1 + 1 + 1 + 1 + 1) (Go.IntWalk.i64_in _ (by omega)) (by kernel_rfl) ?_
            refine st_round (by kernel_rfl) ?_
            by_cases k15 : mi ≠ 0
            · refine st_b 15 (bne_iff_ne.2 k15) (by kernel_rfl) ?_
              refine st_fn ent51 (wof_fn (mi) (by assumption)) sub0 (by kernel_rfl) ?_
              refine st_fn ent48 (wsign_fn (mi)) sub0 (by kernel_rfl) ?_
              exact st_retv Try.func61 (show Value.int IntKind.i64 (cmpI mi 0) = _ by (refine i_eq ?_; unfold sg8; simp_all)) (by kernel_rfl)
            · refine st_b 15 (bne_eq_false_iff_eq.2 (Classical.not_not.1 k15)) (by kernel_rfl) ?_
              refine st_i 21 .i64 (x' := 0 + 1 + 1 + 1 + 1 + 1 + 1) (Go.IntWalk.i64_in _ (by omega)) (by kernel_rfl) ?_
              refine st_round (by kernel_rfl) ?_
              by_cases k15 : s ≠ 0
              · refine st_b 15 (bne_iff_ne.2 k15) (by kernel_rfl) ?_
                refine st_fn ent51 (wof_fn (s) (by assumption)) sub0 (by kernel_rfl) ?_
                refine st_fn ent48 (wsign_fn (s)) sub0 (by kernel_rfl) ?_
                exact st_retv Try.func61 (show Value.int IntKind.i64 (cmpI s 0) = _ by (refine i_eq ?_; unfold sg8; simp_all)) (by kernel_rfl)
              · refine st_b 15 (bne_eq_false_iff_eq.2 (Classical.not_not.1 k15)) (by kernel_rfl) ?_
                refine st_i 21 .i64 (x' := 0 + 1 + 1 + 1 + 1 + 1 + 1 + 1) (Go.IntWalk.i64_in _ (by omega)) (by kernel_rfl) ?_
                refine st_round (by kernel_rfl) ?_
                by_cases k15 : n ≠ 0
                · refine st_b 15 (bne_iff_ne.2 k15) (by kernel_rfl) ?_
                  refine st_fn ent51 (wof_fn (n) (by assumption)) sub0 (by kernel_rfl) ?_
                  refine st_fn ent48 (wsign_fn (n)) sub0 (by kernel_rfl) ?_
                  exact st_retv Try.func61 (show Value.int IntKind.i64 (cmpI n 0) = _ by (refine i_eq ?_; unfold sg8; simp_all)) (by kernel_rfl)
                · refine st_b 15 (bne_eq_false_iff_eq.2 (Classical.not_not.1 k15)) (by kernel_rfl) ?_
                  refine st_i 21 .i64 (x' := 0 + 1 + 1 + 1 + 1 + 1 + 1 + 1 + 1) (Go.IntWalk.i64_in _ (by omega)) (by kernel_rfl) ?_
                  refine st_round (by kernel_rfl) ?_
                  exact st_retv Try.func61 (show Value.int IntKind.i64 0 = _ by (refine i_eq ?_; unfold sg8; simp_all [cmpI])) (by kernel_rfl)
theorem ularg : Fn 70 [] [duv a b c d h mi s n] (.int .i64 (lg8 a b c d h mi s n)) := by
  refine fn_of Try.func70 rfl fun ww => ?_
  refine ufields_row 0 0 (by kernel_rfl) ?_
  refine st_round (by kernel_rfl) ?_
  refine st_i 21 .i64 (x' := 0 + 1) (Go.IntWalk.i64_in _ (by omega)) (by kernel_rfl) ?_
  refine st_round (by kernel_rfl) ?_
  by_cases k18 : a ≠ 0
  · refine st_b 18 (bne_iff_ne.2 k18) (by kernel_rfl) ?_
    exact st_retv Try.func70 (show Value.int IntKind.i64 (0 + 1) = _ by (refine i_eq ?_; unfold lg8; simp_all)) (by kernel_rfl)
  · refine st_b 18 (bne_eq_false_iff_eq.2 (Classical.not_not.1 k18)) (by kernel_rfl) ?_
    refine st_i 21 .i64 (x' := 0 + 1 + 1) (Go.IntWalk.i64_in _ (by omega)) (by kernel_rfl) ?_
    refine st_round (by kernel_rfl) ?_
    by_cases k18 : b ≠ 0
    · refine st_b 18 (bne_iff_ne.2 k18) (by kernel_rfl) ?_
      exact st_retv Try.func70 (show Value.int IntKind.i64 (0 + 1 + 1) = _ by (refine i_eq ?_; unfold lg8; simp_all)) (by kernel_rfl)
    · refine st_b 18 (bne_eq_false_iff_eq.2 (Classical.not_not.1 k18)) (by kernel_rfl) ?_
      refine st_i 21 .i64 (x' := 0 + 1 + 1 + 1) (Go.IntWalk.i64_in _ (by omega)) (by kernel_rfl) ?_
      refine st_round (by kernel_rfl) ?_
      by_cases k18 : c ≠ 0
      · refine st_b 18 (bne_iff_ne.2 k18) (by kernel_rfl) ?_
        exact st_retv Try.func70 (show Value.int IntKind.i64 (0 + 1 + 1 + 1) = _ by (refine i_eq ?_; unfold lg8; simp_all)) (by kernel_rfl)
      · refine st_b 18 (bne_eq_false_iff_eq.2 (Classical.not_not.1 k18)) (by kernel_rfl) ?_
        refine st_i 21 .i64 (x' := 0 + 1 + 1 + 1 + 1) (Go.IntWalk.i64_in _ (by omega)) (by kernel_rfl) ?_
        refine st_round (by kernel_rfl) ?_
        by_cases k18 : d ≠ 0
        · refine st_b 18 (bne_iff_ne.2 k18) (by kernel_rfl) ?_
          exact st_retv Try.func70 (show Value.int IntKind.i64 (0 + 1 + 1 + 1 + 1) = _ by (refine i_eq ?_; unfold lg8; simp_all)) (by kernel_rfl)
        · refine st_b 18 (bne_eq_false_iff_eq.2 (Classical.not_not.1 k18)) (by kernel_rfl) ?_
          refine st_i 21 .i64 (x' := 0 + 1 + 1 + 1 + 1 + 1) (Go.IntWalk.i64_in _ (by omega)) (by kernel_rfl) ?_
          refine st_round (by kernel_rfl) ?_
          by_cases k18 : h ≠ 0
          · refine st_b 18 (bne_iff_ne.2 k18) (by kernel_rfl) ?_
            exact st_retv Try.func70 (show Value.int IntKind.i64 (0 + 1 + 1 + 1 + 1 + 1) = _ by (refine i_eq ?_; unfold lg8; simp_all)) (by kernel_rfl)
          · refine st_b 18 (bne_eq_false_iff_eq.2 (Classical.not_not.1 k18)) (by kernel_rfl) ?_
            refine st_i 21 .i64 (x' := 0 + 1 + 1 + 1 + 1 + 1 + 1) (Go.IntWalk.i64_in _ (by omega)) (by kernel_rfl) ?_
            refine st_round (by kernel_rfl) ?_
            by_cases k18 : mi ≠ 0
            · refine st_b 18 (bne_iff_ne.2 k18) (by kernel_rfl) ?_
              exact st_retv Try.func70 (show Value.int IntKind.i64 (0 + 1 + 1 + 1 + 1 + 1 + 1) = _ by (refine i_eq ?_; unfold lg8; simp_all)) (by kernel_rfl)
            · refine st_b 18 (bne_eq_false_iff_eq.2 (Classical.not_not.1 k18)) (by kernel_rfl) ?_
              refine st_i 21 .i64 (x' := 0 + 1 + 1 + 1 + 1 + 1 + 1 + 1) (Go.IntWalk.i64_in _ (by omega)) (by kernel_rfl) ?_
              refine st_round (by kernel_rfl) ?_
              by_cases k18 : s ≠ 0
              · refine st_b 18 (bne_iff_ne.2 k18) (by kernel_rfl) ?_
                exact st_retv Try.func70 (show Value.int IntKind.i64 (0 + 1 + 1 + 1 + 1 + 1 + 1 + 1) = _ by (refine i_eq ?_; unfold lg8; simp_all)) (by kernel_rfl)
              · refine st_b 18 (bne_eq_false_iff_eq.2 (Classical.not_not.1 k18)) (by kernel_rfl) ?_
                refine st_i 21 .i64 (x' := 0 + 1 + 1 + 1 + 1 + 1 + 1 + 1 + 1) (Go.IntWalk.i64_in _ (by omega)) (by kernel_rfl) ?_
                refine st_round (by kernel_rfl) ?_
                by_cases k18 : n ≠ 0
                · refine st_b 18 (bne_iff_ne.2 k18) (by kernel_rfl) ?_
                  exact st_retv Try.func70 (show Value.int IntKind.i64 (0 + 1 + 1 + 1 + 1 + 1 + 1 + 1 + 1) = _ by (refine i_eq ?_; unfold lg8; simp_all)) (by kernel_rfl)
                · refine st_b 18 (bne_eq_false_iff_eq.2 (Classical.not_not.1 k18)) (by kernel_rfl) ?_
                  refine st_i 21 .i64 (x' := 0 + 1 + 1 + 1 + 1 + 1 + 1 + 1 + 1 + 1) (Go.IntWalk.i64_in _ (by omega)) (by kernel_rfl) ?_
                  refine st_round (by kernel_rfl) ?_
                  exact st_retv Try.func70 (show Value.int IntKind.i64 8 = _ by (refine i_eq ?_; unfold lg8; simp_all)) (by kernel_rfl)
theorem uright_p (i : all64 a b c d h mi s n) (hs : sg8 a b c d h mi s n = 1) (hk : 0 < a ∨ a = 0 ∧ (0 < b ∨ b = 0 ∧ (0 < c ∨ c = 0 ∧ (0 < d ∨ d = 0 ∧ (0 < h ∨ h = 0 ∧ (0 < mi ∨ mi = 0 ∧ (0 < s ∨ s = 0 ∧ 0 < n))))))) : Fn 62 [] [duv a b c d h mi s n] (.bool (decide (uOk a b c d h mi s n))) := by
  have us := usign a b c d h mi s n i
  rw [hs] at us
  obtain ⟨i1, i2, i3, i4, i5, i6, i7, i8⟩ := i
  have wt : W128 (dtot d h mi s n) ∧ W128 (-dtot d h mi s n) := by unfold I64 at *; unfold W128 dtot; omega
  obtain ⟨wt1, wt2⟩ := wt
  have ut := utot a b c d h mi s n i4 i5 i6 i7 i8
  have qt := cmpI_lt0 (a := dtot d h mi s n) (b := 9007199254740992000000000)
  refine fn_of Try.func62 rfl fun ww => ?_
  refine st_fn ent61 (us) sub0 (by kernel_rfl) ?_
  refine ufields_row 0 0 (by kernel_rfl) ?_
  refine st_forget [0, 1, 3, 7, 8, 9, 10, 11, 12, 46, 47, 48, 49, 50, 51, 52, 53, 54, 55, 56, 57, 58] (by kernel_rfl) ?_
  refine st_loop (X := Int) (fun x => ([SV.val (Value.agg #[Value.int IntKind.i64 a, Value.int IntKind.i64 b, Value.int IntKind.i64 c, Value.int IntKind.i64 d, Value.int IntKind.i64 h, Value.int IntKind.i64 mi, Value.int IntKind.i64 s, Value.int IntKind.i64 n]), SV.ptr 0 0, .any, SV.val (Value.int IntKind.i64 1), .any, .any, .any, SV.val (Value.tuple #[]), SV.val (Value.agg #[Value.int IntKind.i64 a, Value.int IntKind.i64 b, Value.int IntKind.i64 c, Value.int IntKind.i64 d, Value.int IntKind.i64 h, Value.int IntKind.i64 mi, Value.int IntKind.i64 s, Value.int IntKind.i64 n]), SV.val (Value.int IntKind.i64 1), SV.sl 1 0 9 9, SV.val (Value.int IntKind.i64 (↑9 : Int)), .val (.int .i64 x), .any, .any, .any, .any, .any, .any, .any, .any, .any, .any, .any, .any, .any, .any, .any, .any, .any, .any, .any, .any, .any, .any, .any, .any, .any, .any, .any, .any, .any, .any, .any, .any, .any, SV.val (Value.tuple #[]), SV.val (Value.tuple #[]), SV.val (Value.tuple #[]), SV.val (Value.tuple #[]), SV.val (Value.tuple #[]), SV.val (Value.tuple #[]), SV.val (Value.tuple #[]), SV.val (Value.tuple #[]), SV.val (Value.tuple #[]), SV.val (Value.tuple #[]), SV.val (Value.tuple #[]), SV.val (Value.tuple #[]), SV.val (Value.tuple #[])], [⟨[SV.val (Value.int IntKind.i64 a), SV.val (Value.int IntKind.i64 b), SV.val (Value.int IntKind.i64 c), SV.val (Value.int IntKind.i64 d), SV.val (Value.int IntKind.i64 h), SV.val (Value.int IntKind.i64 mi), SV.val (Value.int IntKind.i64 s), SV.val (Value.int IntKind.i64 n)], 70⟩, ⟨[SV.val (Value.pointer none), SV.ptr 0 0, SV.ptr 0 1, SV.ptr 0 2, SV.ptr 0 3, SV.ptr 0 4, SV.ptr 0 5, SV.ptr 0 6, SV.ptr 0 7], 169⟩])) (fun _ => _) (fun k => 0 ≤ k ∧ k ≤ 9 ∧ (1 < k → 0 ≤ a ∧ -4294967295 ≤ a ∧ a ≤ 4294967295) ∧ (2 < k → 0 ≤ b ∧ -4294967295 ≤ b ∧ b ≤ 4294967295) ∧ (3 < k → 0 ≤ c ∧ -4294967295 ≤ c ∧ c ≤ 4294967295) ∧ (4 < k → 0 ≤ d) ∧ (5 < k → 0 ≤ h) ∧ (6 < k → 0 ≤ mi) ∧ (7 < k → 0 ≤ s) ∧ (8 < k → 0 ≤ n)) (fun k => (9 - k).toNat) (0) (by kernel_rfl) (by kernel_rfl) Sub.refl (by first | omega | (simp; omega) | assumption | simp_all) (fun y0 px0 back0 => ?_)
  (have q := cmpI_sg (fl8 a b c d h mi s n y0); have hk0 : y0 = 0 ∨ y0 = 1 ∨ y0 = 2 ∨ y0 = 3 ∨ y0 = 4 ∨ y0 = 5 ∨ y0 = 6 ∨ y0 = 7 ∨ y0 = 8 ∨ y0 = 9 := (by omega); rcases hk0 with rfl | rfl | rfl | rfl | rfl | rfl | rfl | rfl | rfl | rfl <;> simp only [fl8, Int.reduceEq, if_true, if_false] at q)
  · have _hh := True.intro
    refine st_i 45 .i64 (x' := 0 + 1) (Go.IntWalk.i64_in _ (by omega)) (by kernel_rfl) ?_
    refine st_forget [0, 1, 2, 3, 6, 7, 8, 9, 10, 11, 12, 19, 20, 21, 22, 23, 24, 25, 26, 27, 28, 29, 30, 31, 32, 33, 34, 35, 36, 37, 38, 39, 40, 41, 42, 43, 44, 46, 47, 48, 49, 50, 51, 52, 53, 54, 55, 56, 57, 58] (by kernel_rfl) ?_
    exact st_back back0 (0 + 1) (by first | omega | (simp only []; omega) | (simp; omega)) (by first | (refine b_eq (decide_eq_false ?_).symm; unfold uOk pos8 neg8 cnt1 LIM; omega) | (refine b_eq (decide_eq_decide.2 ?_); unfold uOk pos8 neg8 cnt1 LIM; rw [qt]; unfold dtot; omega) | omega | (simp only []; omega) | (simp; omega) | assumption | simp_all) (fun p hp => by first | exact hp | simp_all) (by kernel_rfl) (by kernel_rfl) (by kernel_rfl)
  · have _hh := True.intro
    refine st_fn ent51 (wof_fn (a) (by assumption)) sub0 (by kernel_rfl) ?_
    refine st_fn ent48 (wsign_fn (a)) sub0 (by kernel_rfl) ?_
    by_cases k25 : cmpI a 0 ≠ 0
    · refine st_b 25 (bne_iff_ne.2 k25) (by kernel_rfl) ?_
      refine st_b 29 (show (cmpI a 0 != 1) = false by exact bne_eq_false_iff_eq.2 (by omega)) (by kernel_rfl) ?_
      by_cases k37 : a > 4294967295
      · refine st_b 37 (decide_eq_true k37) (by kernel_rfl) ?_
        exact st_retv Try.func62 (show Value.bool (false) = _ by (refine b_eq (decide_eq_false ?_).symm; unfold uOk pos8 neg8 cnt1 LIM; omega)) (by kernel_rfl)
      · refine st_b 37 (decide_eq_false k37) (by kernel_rfl) ?_
        refine st_b 42 (show (decide (a < -4294967295)) = false by exact decide_eq_false (by omega)) (by kernel_rfl) ?_
        refine st_i 45 .i64 (x' := 1 + 1) (Go.IntWalk.i64_in _ (by omega)) (by kernel_rfl) ?_
        refine st_forget [0, 1, 2, 3, 7, 8, 9, 10, 11, 12, 46, 47, 48, 49, 50, 51, 52, 53, 54, 55, 56, 57, 58] (by kernel_rfl) ?_
        exact st_back back0 (1 + 1) (by first | omega | (simp only []; omega) | (simp; omega)) (by first | (refine b_eq (decide_eq_false ?_).symm; unfold uOk pos8 neg8 cnt1 LIM; omega) | (refine b_eq (decide_eq_decide.2 ?_); unfold uOk pos8 neg8 cnt1 LIM; rw [qt]; unfold dtot; omega) | omega | (simp only []; omega) | (simp; omega) | assumption | simp_all) (fun p hp => by first | exact hp | simp_all) (by kernel_rfl) (by kernel_rfl) (by kernel_rfl)
    · refine st_b 25 (bne_eq_false_iff_eq.2 (Classical.not_not.1 k25)) (by kernel_rfl) ?_
      refine st_b 37 (show (decide (a > 4294967295)) = false by exact decide_eq_false (by omega)) (by kernel_rfl) ?_
      refine st_b 42 (show (decide (a < -4294967295)) = false by exact decide_eq_false (by omega)) (by kernel_rfl) ?_
      refine st_i 45 .i64 (x' := 1 + 1) (Go.IntWalk.i64_in _ (by omega)) (by kernel_rfl) ?_
      refine st_forget [0, 1, 2, 3, 7, 8, 9, 10, 11, 12, 46, 47, 48, 49, 50, 51, 52, 53, 54, 55, 56, 57, 58] (by kernel_rfl) ?_
      exact st_back back0 (1 + 1) (by first | omega | (simp only []; omega) | (simp; omega)) (by first | (refine b_eq (decide_eq_false ?_).symm; unfold uOk pos8 neg8 cnt1 LIM; omega) | (refine b_eq (decide_eq_decide.2 ?_); unfold uOk pos8 neg8 cnt1 LIM; rw [qt]; unfold dtot; omega) | omega | (simp only []; omega) | (simp; omega) | assumption | simp_all) (fun p hp => by first | exact hp | simp_all) (by kernel_rfl) (by kernel_rfl) (by kernel_rfl)
  · have _hh := True.intro
    refine st_fn ent51 (wof_fn (b) (by assumption)) sub0 (by kernel_rfl) ?_
    refine st_fn ent48 (wsign_fn (b)) sub0 (by kernel_rfl) ?_
    by_cases k25 : cmpI b 0 ≠ 0
    · refine st_b 25 (bne_iff_ne.2 k25) (by kernel_rfl) ?_
      by_cases k29 : cmpI b 0 ≠ 1
      · refine st_b 29 (bne_iff_ne.2 k29) (by kernel_rfl) ?_
        exact st_retv Try.func62 (show Value.bool (false) = _ by (refine b_eq (decide_eq_false ?_).symm; unfold uOk pos8 neg8 cnt1 LIM; omega)) (by kernel_rfl)
      · refine st_b 29 (bne_eq_false_iff_eq.2 (Classical.not_not.1 k29)) (by kernel_rfl) ?_
        by_cases k37 : b > 4294967295
        · refine st_b 37 (decide_eq_true k37) (by kernel_rfl) ?_
          exact st_retv Try.func62 (show Value.bool (false) = _ by (refine b_eq (decide_eq_false ?_).symm; unfold uOk pos8 neg8 cnt1 LIM; omega)) (by kernel_rfl)
        · refine st_b 37 (decide_eq_false k37) (by kernel_rfl) ?_
          refine st_b 42 (show (decide (b < -4294967295)) = false by exact decide_eq_false (by omega)) (by kernel_rfl) ?_
          refine st_i 45 .i64 (x' := 2 + 1) (Go.IntWalk.i64_in _ (by omega)) (by kernel_rfl) ?_
          refine st_forget [0, 1, 2, 3, 7, 8, 9, 10, 11, 12, 46, 47, 48, 49, 50, 51, 52, 53, 54, 55, 56, 57, 58] (by kernel_rfl) ?_
          exact st_back back0 (2 + 1) (by first | omega | (simp only []; omega) | (simp; omega)) (by first | (refine b_eq (decide_eq_false ?_).symm; unfold uOk pos8 neg8 cnt1 LIM; omega) | (refine b_eq (decide_eq_decide.2 ?_); unfold uOk pos8 neg8 cnt1 LIM; rw [qt]; unfold dtot; omega) | omega | (simp only []; omega) | (simp; omega) | assumption | simp_all) (fun p hp => by first | exact hp | simp_all) (by kernel_rfl) (by kernel_rfl) (by kernel_rfl)
    · refine st_b 25 (bne_eq_false_iff_eq.2 (Classical.not_not.1 k25)) (by kernel_rfl) ?_
      refine st_b 37 (show (decide (b > 4294967295)) = false by exact decide_eq_false (by omega)) (by kernel_rfl) ?_
      refine st_b 42 (show (decide (b < -4294967295)) = false by exact decide_eq_false (by omega)) (by kernel_rfl) ?_
      refine st_i 45 .i64 (x' := 2 + 1) (Go.IntWalk.i64_in _ (by omega)) (by kernel_rfl) ?_
      refine st_forget [0, 1, 2, 3, 7, 8, 9, 10, 11, 12, 46, 47, 48, 49, 50, 51, 52, 53, 54, 55, 56, 57, 58] (by kernel_rfl) ?_
      exact st_back back0 (2 + 1) (by first | omega | (simp only []; omega) | (simp; omega)) (by first | (refine b_eq (decide_eq_false ?_).symm; unfold uOk pos8 neg8 cnt1 LIM; omega) | (refine b_eq (decide_eq_decide.2 ?_); unfold uOk pos8 neg8 cnt1 LIM; rw [qt]; unfold dtot; omega) | omega | (simp only []; omega) | (simp; omega) | assumption | simp_all) (fun p hp => by first | exact hp | simp_all) (by kernel_rfl) (by kernel_rfl) (by kernel_rfl)
  · have _hh := True.intro
    refine st_fn ent51 (wof_fn (c) (by assumption)) sub0 (by kernel_rfl) ?_
    refine st_fn ent48 (wsign_fn (c)) sub0 (by kernel_rfl) ?_
    by_cases k25 : cmpI c 0 ≠ 0
    · refine st_b 25 (bne_iff_ne.2 k25) (by kernel_rfl) ?_
      by_cases k29 : cmpI c 0 ≠ 1
      · refine st_b 29 (bne_iff_ne.2 k29) (by kernel_rfl) ?_
        exact st_retv Try.func62 (show Value.bool (false) = _ by (refine b_eq (decide_eq_false ?_).symm; unfold uOk pos8 neg8 cnt1 LIM; omega)) (by kernel_rfl)
      · refine st_b 29 (bne_eq_false_iff_eq.2 (Classical.not_not.1 k29)) (by kernel_rfl) ?_
        by_cases k37 : c > 4294967295
        · refine st_b 37 (decide_eq_true k37) (by kernel_rfl) ?_
          exact st_retv Try.func62 (show Value.bool (false) = _ by (refine b_eq (decide_eq_false ?_).symm; unfold uOk pos8 neg8 cnt1 LIM; omega)) (by kernel_rfl)
        · refine st_b 37 (decide_eq_false k37) (by kernel_rfl) ?_
          refine st_b 42 (show (decide (c < -4294967295)) = false by exact decide_eq_false (by omega)) (by kernel_rfl) ?_
          refine st_i 45 .i64 (x' := 3 + 1) (Go.IntWalk.i64_in _ (by omega)) (by kernel_rfl) ?_
          refine st_forget [0, 1, 2, 3, 7, 8, 9, 10, 11, 12, 46, 47, 48, 49, 50, 51, 52, 53, 54, 55, 56, 57, 58] (by kernel_rfl) ?_
          exact st_back back0 (3 + 1) (by first | omega | (simp only []; omega) | (simp; omega)) (by first | (refine b_eq (decide_eq_false ?_).symm; unfold uOk pos8 neg8 cnt1 LIM; omega) | (refine b_eq (decide_eq_decide.2 ?_); unfold uOk pos8 neg8 cnt1 LIM; rw [qt]; unfold dtot; omega) | omega | (simp only []; omega) | (simp; omega) | assumption | simp_all) (fun p hp => by first | exact hp | simp_all) (by kernel_rfl) (by kernel_rfl) (by kernel_rfl)
    · refine st_b 25 (bne_eq_false_iff_eq.2 (Classical.not_not.1 k25)) (by kernel_rfl) ?_
      refine st_b 37 (show (decide (c > 4294967295)) = false by exact decide_eq_false (by omega)) (by kernel_rfl) ?_
      refine st_b 42 (show (decide (c < -4294967295)) = false by exact decide_eq_false (by omega)) (by kernel_rfl) ?_
      refine st_i 45 .i64 (x' := 3 + 1) (Go.IntWalk.i64_in _ (by omega)) (by kernel_rfl) ?_
      refine st_forget [0, 1, 2, 3, 7, 8, 9, 10, 11, 12, 46, 47, 48, 49, 50, 51, 52, 53, 54, 55, 56, 57, 58] (by kernel_rfl) ?_
      exact st_back back0 (3 + 1) (by first | omega | (simp only []; omega) | (simp; omega)) (by first | (refine b_eq (decide_eq_false ?_).symm; unfold uOk pos8 neg8 cnt1 LIM; omega) | (refine b_eq (decide_eq_decide.2 ?_); unfold uOk pos8 neg8 cnt1 LIM; rw [qt]; unfold dtot; omega) | omega | (simp only []; omega) | (simp; omega) | assumption | simp_all) (fun p hp => by first | exact hp | simp_all) (by kernel_rfl) (by kernel_rfl) (by kernel_rfl)
  · have _hh := True.intro
    refine st_fn ent51 (wof_fn (d) (by assumption)) sub0 (by kernel_rfl) ?_
    refine st_fn ent48 (wsign_fn (d)) sub0 (by kernel_rfl) ?_
    by_cases k25 : cmpI d 0 ≠ 0
    · refine st_b 25 (bne_iff_ne.2 k25) (by kernel_rfl) ?_
      by_cases k29 : cmpI d 0 ≠ 1
      · refine st_b 29 (bne_iff_ne.2 k29) (by kernel_rfl) ?_
        exact st_retv Try.func62 (show Value.bool (false) = _ by (refine b_eq (decide_eq_false ?_).symm; unfold uOk pos8 neg8 cnt1 LIM; omega)) (by kernel_rfl)
      · refine st_b 29 (bne_eq_false_iff_eq.2 (Classical.not_not.1 k29)) (by kernel_rfl) ?_
        refine st_i 45 .i64 (x' := 4 + 1) (Go.IntWalk.i64_in _ (by omega)) (by kernel_rfl) ?_
        refine st_forget [0, 1, 2, 3, 7, 8, 9, 10, 11, 12, 46, 47, 48, 49, 50, 51, 52, 53, 54, 55, 56, 57, 58] (by kernel_rfl) ?_
        exact st_back back0 (4 + 1) (by first | omega | (simp only []; omega) | (simp; omega)) (by first | (refine b_eq (decide_eq_false ?_).symm; unfold uOk pos8 neg8 cnt1 LIM; omega) | (refine b_eq (decide_eq_decide.2 ?_); unfold uOk pos8 neg8 cnt1 LIM; rw [qt]; unfold dtot; omega) | omega | (simp only []; omega) | (simp; omega) | assumption | simp_all) (fun p hp => by first | exact hp | simp_all) (by kernel_rfl) (by kernel_rfl) (by kernel_rfl)
    · refine st_b 25 (bne_eq_false_iff_eq.2 (Classical.not_not.1 k25)) (by kernel_rfl) ?_
      refine st_i 45 .i64 (x' := 4 + 1) (Go.IntWalk.i64_in _ (by omega)) (by kernel_rfl) ?_
      refine st_forget [0, 1, 2, 3, 7, 8, 9, 10, 11, 12, 46, 47, 48, 49, 50, 51, 52, 53, 54, 55, 56, 57, 58] (by kernel_rfl) ?_
      exact st_back back0 (4 + 1) (by first | omega | (simp only []; omega) | (simp; omega)) (by first | (refine b_eq (decide_eq_false ?_).symm; unfold uOk pos8 neg8 cnt1 LIM; omega) | (refine b_eq (decide_eq_decide.2 ?_); unfold uOk pos8 neg8 cnt1 LIM; rw [qt]; unfold dtot; omega) | omega | (simp only []; omega) | (simp; omega) | assumption | simp_all) (fun p hp => by first | exact hp | simp_all) (by kernel_rfl) (by kernel_rfl) (by kernel_rfl)
  · have _hh := True.intro
    refine st_fn ent51 (wof_fn (h) (by assumption)) sub0 (by kernel_rfl) ?_
    refine st_fn ent48 (wsign_fn (h)) sub0 (by kernel_rfl) ?_
    by_cases k25 : cmpI h 0 ≠ 0
    · refine st_b 25 (bne_iff_ne.2 k25) (by kernel_rfl) ?_
      by_cases k29 : cmpI h 0 ≠ 1
      · refine st_b 29 (bne_iff_ne.2 k29) (by kernel_rfl) ?_
        exact st_retv Try.func62 (show Value.bool (false) = _ by (refine b_eq (decide_eq_false ?_).symm; unfold uOk pos8 neg8 cnt1 LIM; omega)) (by kernel_rfl)
      · refine st_b 29 (bne_eq_false_iff_eq.2 (Classical.not_not.1 k29)) (by kernel_rfl) ?_
        refine st_i 45 .i64 (x' := 5 + 1) (Go.IntWalk.i64_in _ (by omega)) (by kernel_rfl) ?_
        refine st_forget [0, 1, 2, 3, 7, 8, 9, 10, 11, 12, 46, 47, 48, 49, 50, 51, 52, 53, 54, 55, 56, 57, 58] (by kernel_rfl) ?_
        exact st_back back0 (5 + 1) (by first | omega | (simp only []; omega) | (simp; omega)) (by first | (refine b_eq (decide_eq_false ?_).symm; unfold uOk pos8 neg8 cnt1 LIM; omega) | (refine b_eq (decide_eq_decide.2 ?_); unfold uOk pos8 neg8 cnt1 LIM; rw [qt]; unfold dtot; omega) | omega | (simp only []; omega) | (simp; omega) | assumption | simp_all) (fun p hp => by first | exact hp | simp_all) (by kernel_rfl) (by kernel_rfl) (by kernel_rfl)
    · refine st_b 25 (bne_eq_false_iff_eq.2 (Classical.not_not.1 k25)) (by kernel_rfl) ?_
      refine st_i 45 .i64 (x' := 5 + 1) (Go.IntWalk.i64_in _ (by omega)) (by kernel_rfl) ?_
      refine st_forget [0, 1, 2, 3, 7, 8, 9, 10, 11, 12, 46, 47, 48, 49, 50, 51, 52, 53, 54, 55, 56, 57, 58] (by kernel_rfl) ?_
      exact st_back back0 (5 + 1) (by first | omega | (simp only []; omega) | (simp; omega)) (by first | (refine b_eq (decide_eq_false ?_).symm; unfold uOk pos8 neg8 cnt1 LIM; omega) | (refine b_eq (decide_eq_decide.2 ?_); unfold uOk pos8 neg8 cnt1 LIM; rw [qt]; unfold dtot; omega) | omega | (simp only []; omega) | (simp; omega) | assumption | simp_all) (fun p hp => by first | exact hp | simp_all) (by kernel_rfl) (by kernel_rfl) (by kernel_rfl)
  · have _hh := True.intro
    refine st_fn ent51 (wof_fn (mi) (by assumption)) sub0 (by kernel_rfl) ?_
    refine st_fn ent48 (wsign_fn (mi)) sub0 (by kernel_rfl) ?_
    by_cases k25 : cmpI mi 0 ≠ 0
    · refine st_b 25 (bne_iff_ne.2 k25) (by kernel_rfl) ?_
      by_cases k29 : cmpI mi 0 ≠ 1
      · refine st_b 29 (bne_iff_ne.2 k29) (by kernel_rfl) ?_
        exact st_retv Try.func62 (show Value.bool (false) = _ by (refine b_eq (decide_eq_false ?_).symm; unfold uOk pos8 neg8 cnt1 LIM; omega)) (by kernel_rfl)
      · refine st_b 29 (bne_eq_false_iff_eq.2 (Classical.not_not.1 k29)) (by kernel_rfl) ?_
        refine st_i 45 .i64 (x' := 6 + 1) (Go.IntWalk.i64_in _ (by omega)) (by kernel_rfl) ?_
        refine st_forget [0, 1, 2, 3, 7, 8, 9, 10, 11, 12, 46, 47, 48, 49, 50, 51, 52, 53, 54, 55, 56, 57, 58] (by kernel_rfl) ?_
        exact st_back back0 (6 + 1) (by first | omega | (simp only []; omega) | (simp; omega)) (by first | (refine b_eq (decide_eq_false ?_).symm; unfold uOk pos8 neg8 cnt1 LIM; omega) | (refine b_eq (decide_eq_decide.2 ?_); unfold uOk pos8 neg8 cnt1 LIM; rw [qt]; unfold dtot; omega) | omega | (simp only []; omega) | (simp; omega) | assumption | simp_all) (fun p hp => by first | exact hp | simp_all) (by kernel_rfl) (by kernel_rfl) (by kernel_rfl)
    · refine st_b 25 (bne_eq_false_iff_eq.2 (Classical.not_not.1 k25)) (by kernel_rfl) ?_
      refine st_i 45 .i64 (x' := 6 + 1) (Go.IntWalk.i64_in _ (by omega)) (by kernel_rfl) ?_
      refine st_forget [0, 1, 2, 3, 7, 8, 9, 10, 11, 12, 46, 47, 48, 49, 50, 51, 52, 53, 54, 55, 56, 57, 58] (by kernel_rfl) ?_
      exact st_back back0 (6 + 1) (by first | omega | (simp only []; omega) | (simp; omega)) (by first | (refine b_eq (decide_eq_false ?_).symm; unfold uOk pos8 neg8 cnt1 LIM; omega) | (refine b_eq (decide_eq_decide.2 ?_); unfold uOk pos8 neg8 cnt1 LIM; rw [qt]; unfold dtot; omega) | omega | (simp only []; omega) | (simp; omega) | assumption | simp_all) (fun p hp => by first | exact hp | simp_all) (by kernel_rfl) (by kernel_rfl) (by kernel_rfl)
  · have _hh := True.intro
    refine st_fn ent51 (wof_fn (s) (by assumption)) sub0 (by kernel_rfl) ?_
    refine st_fn ent48 (wsign_fn (s)) sub0 (by kernel_rfl) ?_
    by_cases k25 : cmpI s 0 ≠ 0
    · refine st_b 25 (bne_iff_ne.2 k25) (by kernel_rfl) ?_
      by_cases k29 : cmpI s 0 ≠ 1
      · refine st_b 29 (bne_iff_ne.2 k29) (by kernel_rfl) ?_
        exact st_retv Try.func62 (show Value.bool (false) = _ by (refine b_eq (decide_eq_false ?_).symm; unfold uOk pos8 neg8 cnt1 LIM; omega)) (by kernel_rfl)
      · refine st_b 29 (bne_eq_false_iff_eq.2 (Classical.not_not.1 k29)) (by kernel_rfl) ?_
        refine st_i 45 .i64 (x' := 7 + 1) (Go.IntWalk.i64_in _ (by omega)) (by kernel_rfl) ?_
        refine st_forget [0, 1, 2, 3, 7, 8, 9, 10, 11, 12, 46, 47, 48, 49, 50, 51, 52, 53, 54, 55, 56, 57, 58] (by kernel_rfl) ?_
        exact st_back back0 (7 + 1) (by first | omega | (simp only []; omega) | (simp; omega)) (by first | (refine b_eq (decide_eq_false ?_).symm; unfold uOk pos8 neg8 cnt1 LIM; omega) | (refine b_eq (decide_eq_decide.2 ?_); unfold uOk pos8 neg8 cnt1 LIM; rw [qt]; unfold dtot; omega) | omega | (simp only []; omega) | (simp; omega) | assumption | simp_all) (fun p hp => by first | exact hp | simp_all) (by kernel_rfl) (by kernel_rfl) (by kernel_rfl)
    · refine st_b 25 (bne_eq_false_iff_eq.2 (Classical.not_not.1 k25)) (by kernel_rfl) ?_
      refine st_i 45 .i64 (x' := 7 + 1) (Go.IntWalk.i64_in _ (by omega)) (by kernel_rfl) ?_
      refine st_forget [0, 1, 2, 3, 7, 8, 9, 10, 11, 12, 46, 47, 48, 49, 50, 51, 52, 53, 54, 55, 56, 57, 58] (by kernel_rfl) ?_
      exact st_back back0 (7 + 1) (by first | omega | (simp only []; omega) | (simp; omega)) (by first | (refine b_eq (decide_eq_false ?_).symm; unfold uOk pos8 neg8 cnt1 LIM; omega) | (refine b_eq (decide_eq_decide.2 ?_); unfold uOk pos8 neg8 cnt1 LIM; rw [qt]; unfold dtot; omega) | omega | (simp only []; omega) | (simp; omega) | assumption | simp_all) (fun p hp => by first | exact hp | simp_all) (by kernel_rfl) (by kernel_rfl) (by kernel_rfl)
  · have _hh := True.intro
    refine st_fn ent51 (wof_fn (n) (by assumption)) sub0 (by kernel_rfl) ?_
    refine st_fn ent48 (wsign_fn (n)) sub0 (by kernel_rfl) ?_
    by_cases k25 : cmpI n 0 ≠ 0
    · refine st_b 25 (bne_iff_ne.2 k25) (by kernel_rfl) ?_
      by_cases k29 : cmpI n 0 ≠ 1
      · refine st_b 29 (bne_iff_ne.2 k29) (by kernel_rfl) ?_
        exact st_retv Try.func62 (show Value.bool (false) = _ by (refine b_eq (decide_eq_false ?_).symm; unfold uOk pos8 neg8 cnt1 LIM; omega)) (by kernel_rfl)
      · refine st_b 29 (bne_eq_false_iff_eq.2 (Classical.not_not.1 k29)) (by kernel_rfl) ?_
        refine st_i 45 .i64 (x' := 8 + 1) (Go.IntWalk.i64_in _ (by omega)) (by kernel_rfl) ?_
        refine st_forget [0, 1, 2, 3, 7, 8, 9, 10, 11, 12, 46, 47, 48, 49, 50, 51, 52, 53, 54, 55, 56, 57, 58] (by kernel_rfl) ?_
        exact st_back back0 (8 + 1) (by first | omega | (simp only []; omega) | (simp; omega)) (by first | (refine b_eq (decide_eq_false ?_).symm; unfold uOk pos8 neg8 cnt1 LIM; omega) | (refine b_eq (decide_eq_decide.2 ?_); unfold uOk pos8 neg8 cnt1 LIM; rw [qt]; unfold dtot; omega) | omega | (simp only []; omega) | (simp; omega) | assumption | simp_all) (fun p hp => by first | exact hp | simp_all) (by kernel_rfl) (by kernel_rfl) (by kernel_rfl)
    · refine st_b 25 (bne_eq_false_iff_eq.2 (Classical.not_not.1 k25)) (by kernel_rfl) ?_
      refine st_i 45 .i64 (x' := 8 + 1) (Go.IntWalk.i64_in _ (by omega)) (by kernel_rfl) ?_
      refine st_forget [0, 1, 2, 3, 7, 8, 9, 10, 11, 12, 46, 47, 48, 49, 50, 51, 52, 53, 54, 55, 56, 57, 58] (by kernel_rfl) ?_
      exact st_back back0 (8 + 1) (by first | omega | (simp only []; omega) | (simp; omega)) (by first | (refine b_eq (decide_eq_false ?_).symm; unfold uOk pos8 neg8 cnt1 LIM; omega) | (refine b_eq (decide_eq_decide.2 ?_); unfold uOk pos8 neg8 cnt1 LIM; rw [qt]; unfold dtot; omega) | omega | (simp only []; omega) | (simp; omega) | assumption | simp_all) (fun p hp => by first | exact hp | simp_all) (by kernel_rfl) (by kernel_rfl) (by kernel_rfl)
  · have _hh := True.intro
    refine st_fn ent139 (ut) sub0 (by kernel_rfl) ?_
    refine st_fn ent141 (ulimit) sub0 (by kernel_rfl) ?_
    refine st_fn ent47 (wcmp_fn (dtot d h mi s n) (9007199254740992000000000)) sub0 (by kernel_rfl) ?_
    exact st_retv Try.func62 (show Value.bool (decide (cmpI (dtot d h mi s n) 9007199254740992000000000 < 0)) = _ by (refine b_eq (decide_eq_decide.2 ?_); unfold uOk pos8 neg8 cnt1 LIM; rw [qt]; unfold dtot; omega)) (by kernel_rfl)
theorem uright_n (i : all64 a b c d h mi s n) (hs : sg8 a b c d h mi s n = -1) (hk : a < 0 ∨ a = 0 ∧ (b < 0 ∨ b = 0 ∧ (c < 0 ∨ c = 0 ∧ (d < 0 ∨ d = 0 ∧ (h < 0 ∨ h = 0 ∧ (mi < 0 ∨ mi = 0 ∧ (s < 0 ∨ s = 0 ∧ n < 0))))))) : Fn 62 [] [duv a b c d h mi s n] (.bool (decide (uOk a b c d h mi s n))) := by
  have us := usign a b c d h mi s n i
  rw [hs] at us
  obtain ⟨i1, i2, i3, i4, i5, i6, i7, i8⟩ := i
  have wt : W128 (dtot d h mi s n) ∧ W128 (-dtot d h mi s n) := by unfold I64 at *; unfold W128 dtot; omega
  obtain ⟨wt1, wt2⟩ := wt
  have ut := utot a b c d h mi s n i4 i5 i6 i7 i8
  have qt := cmpI_lt0 (a := -dtot d h mi s n) (b := 9007199254740992000000000)
  refine fn_of Try.func62 rfl fun ww => ?_
  refine st_fn ent61 (us) sub0 (by kernel_rfl) ?_
  refine ufields_row 0 0 (by kernel_rfl) ?_
  refine st_forget [0, 1, 3, 7, 8, 9, 10, 11, 12, 46, 47, 48, 49, 50, 51, 52, 53, 54, 55, 56, 57, 58] (by kernel_rfl) ?_
  refine st_loop (X := Int) (fun x => ([SV.val (Value.agg #[Value.int IntKind.i64 a, Value.int IntKind.i64 b, Value.int IntKind.i64 c, Value.int IntKind.i64 d, Value.int IntKind.i64 h, Value.int IntKind.i64 mi, Value.int IntKind.i64 s, Value.int IntKind.i64 n]), SV.ptr 0 0, .any, SV.val (Value.int IntKind.i64 (-1)), .any, .any, .any, SV.val (Value.tuple #[]), SV.val (Value.agg #[Value.int IntKind.i64 a, Value.int IntKind.i64 b, Value.int IntKind.i64 c, Value.int IntKind.i64 d, Value.int IntKind.i64 h, Value.int IntKind.i64 mi, Value.int IntKind.i64 s, Value.int IntKind.i64 n]), SV.val (Value.int IntKind.i64 (-1)), SV.sl 1 0 9 9, SV.val (Value.int IntKind.i64 (↑9 : Int)), .val (.int .i64 x), .any, .any, .any, .any, .any, .any, .any, .any, .any, .any, .any, .any, .any, .any, .any, .any, .any, .any, .any, .any, .any, .any, .any, .any, .any, .any, .any, .any, .any, .any, .any, .any, .any, SV.val (Value.tuple #[]), SV.val (Value.tuple #[]), SV.val (Value.tuple #[]), SV.val (Value.tuple #[]), SV.val (Value.tuple #[]), SV.val (Value.tuple #[]), SV.val (Value.tuple #[]), SV.val (Value.tuple #[]), SV.val (Value.tuple #[]), SV.val (Value.tuple #[]), SV.val (Value.tuple #[]), SV.val (Value.tuple #[]), SV.val (Value.tuple #[])], [⟨[SV.val (Value.int IntKind.i64 a), SV.val (Value.int IntKind.i64 b), SV.val (Value.int IntKind.i64 c), SV.val (Value.int IntKind.i64 d), SV.val (Value.int IntKind.i64 h), SV.val (Value.int IntKind.i64 mi), SV.val (Value.int IntKind.i64 s), SV.val (Value.int IntKind.i64 n)], 70⟩, ⟨[SV.val (Value.pointer none), SV.ptr 0 0, SV.ptr 0 1, SV.ptr 0 2, SV.ptr 0 3, SV.ptr 0 4, SV.ptr 0 5, SV.ptr 0 6, SV.ptr 0 7], 169⟩])) (fun _ => _) (fun k => 0 ≤ k ∧ k ≤ 9 ∧ (1 < k → a ≤ 0 ∧ -4294967295 ≤ a ∧ a ≤ 4294967295) ∧ (2 < k → b ≤ 0 ∧ -4294967295 ≤ b ∧ b ≤ 4294967295) ∧ (3 < k → c ≤ 0 ∧ -4294967295 ≤ c ∧ c ≤ 4294967295) ∧ (4 < k → d ≤ 0) ∧ (5 < k → h ≤ 0) ∧ (6 < k → mi ≤ 0) ∧ (7 < k → s ≤ 0) ∧ (8 < k → n ≤ 0)) (fun k => (9 - k).toNat) (0) (by kernel_rfl) (by kernel_rfl) Sub.refl (by first | omega | (simp; omega) | assumption | simp_all) (fun y0 px0 back0 => ?_)
  (have q := cmpI_sg (fl8 a b c d h mi s n y0); have hk0 : y0 = 0 ∨ y0 = 1 ∨ y0 = 2 ∨ y0 = 3 ∨ y0 = 4 ∨ y0 = 5 ∨ y0 = 6 ∨ y0 = 7 ∨ y0 = 8 ∨ y0 = 9 := (by omega); rcases hk0 with rfl | rfl | rfl | rfl | rfl | rfl | rfl | rfl | rfl | rfl <;> simp only [fl8, Int.reduceEq, if_true, if_false] at q)
  · have _hh := True.intro
    refine st_i 45 .i64 (x' := 0 + 1) (Go.IntWalk.i64_in _ (by omega)) (by kernel_rfl) ?_
    refine st_forget [0, 1, 2, 3, 6, 7, 8, 9, 10, 11, 12, 19, 20, 21, 22, 23, 24, 25, 26, 27, 28, 29, 30, 31, 32, 33, 34, 35, 36, 37, 38, 39, 40, 41, 42, 43, 44, 46, 47, 48, 49, 50, 51, 52, 53, 54, 55, 56, 57, 58] (by kernel_rfl) ?_
    exact st_back back0 (0 + 1) (by first | omega | (simp only []; omega) | (simp; omega)) (by first | (refine b_eq (decide_eq_false ?_).symm; unfold uOk pos8 neg8 cnt1 LIM; omega) | (refine b_eq (decide_eq_decide.2 ?_); unfold uOk pos8 neg8 cnt1 LIM; rw [qt]; unfold dtot; omega) | omega | (simp only []; omega) | (simp; omega) | assumption | simp_all) (fun p hp => by first | exact hp | simp_all) (by kernel_rfl) (by kernel_rfl) (by kernel_rfl)
  · have _hh := True.intro
    refine st_fn ent51 (wof_fn (a) (by assumption)) sub0 (by kernel_rfl) ?_
    refine st_fn ent48 (wsign_fn (a)) sub0 (by kernel_rfl) ?_
    by_cases k25 : cmpI a 0 ≠ 0
    · refine st_b 25 (bne_iff_ne.2 k25) (by kernel_rfl) ?_
      refine st_b 29 (show (cmpI a 0 != -1) = false by exact bne_eq_false_iff_eq.2 (by omega)) (by kernel_rfl) ?_
      refine st_b 37 (show (decide (a > 4294967295)) = false by exact decide_eq_false (by omega)) (by kernel_rfl) ?_
      by_cases k42 : a < -4294967295
      · refine st_b 42 (decide_eq_true k42) (by kernel_rfl) ?_
        exact st_retv Try.func62 (show Value.bool (false) = _ by (refine b_eq (decide_eq_false ?_).symm; unfold uOk pos8 neg8 cnt1 LIM; omega)) (by kernel_rfl)
      · refine st_b 42 (decide_eq_false k42) (by kernel_rfl) ?_
        refine st_i 45 .i64 (x' := 1 + 1) (Go.IntWalk.i64_in _ (by omega)) (by kernel_rfl) ?_
        refine st_forget [0, 1, 2, 3, 7, 8, 9, 10, 11, 12, 46, 47, 48, 49, 50, 51, 52, 53, 54, 55, 56, 57, 58] (by kernel_rfl) ?_
        exact st_back back0 (1 + 1) (by first | omega | (simp only []; omega) | (simp; omega)) (by first | (refine b_eq (decide_eq_false ?_).symm; unfold uOk pos8 neg8 cnt1 LIM; omega) | (refine b_eq (decide_eq_decide.2 ?_); unfold uOk pos8 neg8 cnt1 LIM; rw [qt]; unfold dtot; omega) | omega | (simp only []; omega) | (simp; omega) | assumption | simp_all) (fun p hp => by first | exact hp | simp_all) (by kernel_rfl) (by kernel_rfl) (by kernel_rfl)
    · refine st_b 25 (bne_eq_false_iff_eq.2 (Classical.not_not.1 k25)) (by kernel_rfl) ?_
      refine st_b 37 (show (decide (a > 4294967295)) = false by exact decide_eq_false (by omega)) (by kernel_rfl) ?_
      refine st_b 42 (show (decide (a < -4294967295)) = false by exact decide_eq_false (by omega)) (by kernel_rfl) ?_
      refine st_i 45 .i64 (x' := 1 + 1) (Go.IntWalk.i64_in _ (by omega)) (by kernel_rfl) ?_
      refine st_forget [0, 1, 2, 3, 7, 8, 9, 10, 11, 12, 46, 47, 48, 49, 50, 51, 52, 53, 54, 55, 56, 57, 58] (by kernel_rfl) ?_
      exact st_back back0 (1 + 1) (by first | omega | (simp only []; omega) | (simp; omega)) (by first | (refine b_eq (decide_eq_false ?_).symm; unfold uOk pos8 neg8 cnt1 LIM; omega) | (refine b_eq (decide_eq_decide.2 ?_); unfold uOk pos8 neg8 cnt1 LIM; rw [qt]; unfold dtot; omega) | omega | (simp only []; omega) | (simp; omega) | assumption | simp_all) (fun p hp => by first | exact hp | simp_all) (by kernel_rfl) (by kernel_rfl) (by kernel_rfl)
  · have _hh := True.intro
    refine st_fn ent51 (wof_fn (b) (by assumption)) sub0 (by kernel_rfl) ?_
    refine st_fn ent48 (wsign_fn (b)) sub0 (by kernel_rfl) ?_
    by_cases k25 : cmpI b 0 ≠ 0
    · refine st_b 25 (bne_iff_ne.2 k25) (by kernel_rfl) ?_
      by_cases k29 : cmpI b 0 ≠ -1
      · refine st_b 29 (bne_iff_ne.2 k29) (by kernel_rfl) ?_
        exact st_retv Try.func62 (show Value.bool (false) = _ by (refine b_eq (decide_eq_false ?_).symm; unfold uOk pos8 neg8 cnt1 LIM; omega)) (by kernel_rfl)
      · refine st_b 29 (bne_eq_false_iff_eq.2 (Classical.not_not.1 k29)) (by kernel_rfl) ?_
        refine st_b 37 (show (decide (b > 4294967295)) = false by exact decide_eq_false (by omega)) (by kernel_rfl) ?_
        by_cases k42 : b < -4294967295
        · refine st_b 42 (decide_eq_true k42) (by kernel_rfl) ?_
          exact st_retv Try.func62 (show Value.bool (false) = _ by (refine b_eq (decide_eq_false ?_).symm; unfold uOk pos8 neg8 cnt1 LIM; omega)) (by kernel_rfl)
        · refine st_b 42 (decide_eq_false k42) (by kernel_rfl) ?_
          refine st_i 45 .i64 (x' := 2 + 1) (Go.IntWalk.i64_in _ (by omega)) (by kernel_rfl) ?_
          refine st_forget [0, 1, 2, 3, 7, 8, 9, 10, 11, 12, 46, 47, 48, 49, 50, 51, 52, 53, 54, 55, 56, 57, 58] (by kernel_rfl) ?_
          exact st_back back0 (2 + 1) (by first | omega | (simp only []; omega) | (simp; omega)) (by first | (refine b_eq (decide_eq_false ?_).symm; unfold uOk pos8 neg8 cnt1 LIM; omega) | (refine b_eq (decide_eq_decide.2 ?_); unfold uOk pos8 neg8 cnt1 LIM; rw [qt]; unfold dtot; omega) | omega | (simp only []; omega) | (simp; omega) | assumption | simp_all) (fun p hp => by first | exact hp | simp_all) (by kernel_rfl) (by kernel_rfl) (by kernel_rfl)
    · refine st_b 25 (bne_eq_false_iff_eq.2 (Classical.not_not.1 k25)) (by kernel_rfl) ?_
      refine st_b 37 (show (decide (b > 4294967295)) = false by exact decide_eq_false (by omega)) (by kernel_rfl) ?_
      refine st_b 42 (show (decide (b < -4294967295)) = false by exact decide_eq_false (by omega)) (by kernel_rfl) ?_
      refine st_i 45 .i64 (x' := 2 + 1) (Go.IntWalk.i64_in _ (by omega)) (by kernel_rfl) ?_
      refine st_forget [0, 1, 2, 3, 7, 8, 9, 10, 11, 12, 46, 47, 48, 49, 50, 51, 52, 53, 54, 55, 56, 57, 58] (by kernel_rfl) ?_
      exact st_back back0 (2 + 1) (by first | omega | (simp only []; omega) | (simp; omega)) (by first | (refine b_eq (decide_eq_false ?_).symm; unfold uOk pos8 neg8 cnt1 LIM; omega) | (refine b_eq (decide_eq_decide.2 ?_); unfold uOk pos8 neg8 cnt1 LIM; rw [qt]; unfold dtot; omega) | omega | (simp only []; omega) | (simp; omega) | assumption | simp_all) (fun p hp => by first | exact hp | simp_all) (by kernel_rfl) (by kernel_rfl) (by kernel_rfl)
  · have _hh := True.intro
    refine st_fn ent51 (wof_fn (c) (by assumption)) sub0 (by kernel_rfl) ?_
    refine st_fn ent48 (wsign_fn (c)) sub0 (by kernel_rfl) ?_
    by_cases k25 : cmpI c 0 ≠ 0
    · refine st_b 25 (bne_iff_ne.2 k25) (by kernel_rfl) ?_
      by_cases k29 : cmpI c 0 ≠ -1
      · refine st_b 29 (bne_iff_ne.2 k29) (by kernel_rfl) ?_
        exact st_retv Try.func62 (show Value.bool (false) = _ by (refine b_eq (decide_eq_false ?_).symm; unfold uOk pos8 neg8 cnt1 LIM; omega)) (by kernel_rfl)
      · refine st_b 29 (bne_eq_false_iff_eq.2 (Classical.not_not.1 k29)) (by kernel_rfl) ?_
        refine st_b 37 (show (decide (c > 4294967295)) = false by exact decide_eq_false (by omega)) (by kernel_rfl) ?_
        by_cases k42 : c < -4294967295
        · refine st_b 42 (decide_eq_true k42) (by kernel_rfl) ?_
          exact st_retv Try.func62 (show Value.bool (false) = _ by (refine b_eq (decide_eq_false ?_).symm; unfold uOk pos8 neg8 cnt1 LIM; omega)) (by kernel_rfl)
        · refine st_b 42 (decide_eq_false k42) (by kernel_rfl) ?_
          refine st_i 45 .i64 (x' := 3 + 1) (Go.IntWalk.i64_in _ (by omega)) (by kernel_rfl) ?_
          refine st_forget [0, 1, 2, 3, 7, 8, 9, 10, 11, 12, 46, 47, 48, 49, 50, 51, 52, 53, 54, 55, 56, 57, 58] (by kernel_rfl) ?_
          exact st_back back0 (3 + 1) (by first | omega | (simp only []; omega) | (simp; omega)) (by first | (refine b_eq (decide_eq_false ?_).symm; unfold uOk pos8 neg8 cnt1 LIM; omega) | (refine b_eq (decide_eq_decide.2 ?_); unfold uOk pos8 neg8 cnt1 LIM; rw [qt]; unfold dtot; omega) | omega | (simp only []; omega) | (simp; omega) | assumption | simp_all) (fun p hp => by first | exact hp | simp_all) (by kernel_rfl) (by kernel_rfl) (by kernel_rfl)
    · refine st_b 25 (bne_eq_false_iff_eq.2 (Classical.not_not.1 k25)) (by kernel_rfl) ?_
      refine st_b 37 (show (decide (c > 4294967295)) = false by exact decide_eq_false (by omega)) (by kernel_rfl) ?_
      refine st_b 42 (show (decide (c < -4294967295)) = false by exact decide_eq_false (by omega)) (by kernel_rfl) ?_
      refine st_i 45 .i64 (x' := 3 + 1) (Go.IntWalk.i64_in _ (by omega)) (by kernel_rfl) ?_
      refine st_forget [0, 1, 2, 3, 7, 8, 9, 10, 11, 12, 46, 47, 48, 49, 50, 51, 52, 53, 54, 55, 56, 57, 58] (by kernel_rfl) ?_
      exact st_back back0 (3 + 1) (by first | omega | (simp only []; omega) | (simp; omega)) (by first | (refine b_eq (decide_eq_false ?_).symm; unfold uOk pos8 neg8 cnt1 LIM; omega) | (refine b_eq (decide_eq_decide.2 ?_); unfold uOk pos8 neg8 cnt1 LIM; rw [qt]; unfold dtot; omega) | omega | (simp only []; omega) | (simp; omega) | assumption | simp_all) (fun p hp => by first | exact hp | simp_all) (by kernel_rfl) (by kernel_rfl) (by kernel_rfl)
  · have _hh := True.intro
    refine st_fn ent51 (wof_fn (d) (by assumption)) sub0 (by kernel_rfl) ?_
    refine st_fn ent48 (wsign_fn (d)) sub0 (by kernel_rfl) ?_
    by_cases k25 : cmpI d 0 ≠ 0
    · refine st_b 25 (bne_iff_ne.2 k25) (by kernel_rfl) ?_
      by_cases k29 : cmpI d 0 ≠ -1
      · refine st_b 29 (bne_iff_ne.2 k29) (by kernel_rfl) ?_
        exact st_retv Try.func62 (show Value.bool (false) = _ by (refine b_eq (decide_eq_false ?_).symm; unfold uOk pos8 neg8 cnt1 LIM; omega)) (by kernel_rfl)
      · refine st_b 29 (bne_eq_false_iff_eq.2 (Classical.not_not.1 k29)) (by kernel_rfl) ?_
        refine st_i 45 .i64 (x' := 4 + 1) (Go.IntWalk.i64_in _ (by omega)) (by kernel_rfl) ?_
        refine st_forget [0, 1, 2, 3, 7, 8, 9, 10, 11, 12, 46, 47, 48, 49, 50, 51, 52, 53, 54, 55, 56, 57, 58] (by kernel_rfl) ?_
        exact st_back back0 (4 + 1) (by first | omega | (simp only []; omega) | (simp; omega)) (by first | (refine b_eq (decide_eq_false ?_).symm; unfold uOk pos8 neg8 cnt1 LIM; omega) | (refine b_eq (decide_eq_decide.2 ?_); unfold uOk pos8 neg8 cnt1 LIM; rw [qt]; unfold dtot; omega) | omega | (simp only []; omega) | (simp; omega) | assumption | simp_all) (fun p hp => by first | exact hp | simp_all) (by kernel_rfl) (by kernel_rfl) (by kernel_rfl)
    · refine st_b 25 (bne_eq_false_iff_eq.2 (Classical.not_not.1 k25)) (by kernel_rfl) ?_
      refine st_i 45 .i64 (x' := 4 + 1) (Go.IntWalk.i64_in _ (by omega)) (by kernel_rfl) ?_
      refine st_forget [0, 1, 2, 3, 7, 8, 9, 10, 11, 12, 46, 47, 48, 49, 50, 51, 52, 53, 54, 55, 56, 57, 58] (by kernel_rfl) ?_
      exact st_back back0 (4 + 1) (by first | omega | (simp only []; omega) | (simp; omega)) (by first | (refine b_eq (decide_eq_false ?_).symm; unfold uOk pos8 neg8 cnt1 LIM; omega) | (refine b_eq (decide_eq_decide.2 ?_); unfold uOk pos8 neg8 cnt1 LIM; rw [qt]; unfold dtot; omega) | omega | (simp only []; omega) | (simp; omega) | assumption | simp_all) (fun p hp => by first | exact hp | simp_all) (by kernel_rfl) (by kernel_rfl) (by kernel_rfl)
  · have _hh := True.intro
    refine st_fn ent51 (wof_fn (h) (by assumption)) sub0 (by kernel_rfl) ?_
    refine st_fn ent48 (wsign_fn (h)) sub0 (by kernel_rfl) ?_
    by_cases k25 : cmpI h 0 ≠ 0
    · refine st_b 25 (bne_iff_ne.2 k25) (by kernel_rfl) ?_
      by_cases k29 : cmpI h 0 ≠ -1
      · refine st_b 29 (bne_iff_ne.2 k29) (by kernel_rfl) ?_
        exact st_retv Try.func62 (show Value.bool (false) = _ by (refine b_eq (decide_eq_false ?_).symm; unfold uOk pos8 neg8 cnt1 LIM; omega)) (by kernel_rfl)
      · refine st_b 29 (bne_eq_false_iff_eq.2 (Classical.not_not.1 k29)) (by kernel_rfl) ?_
        refine st_i 45 .i64 (x' := 5 + 1) (Go.IntWalk.i64_in _ (by omega)) (by kernel_rfl) ?_
        refine st_forget [0, 1, 2, 3, 7, 8, 9, 10, 11, 12, 46, 47, 48, 49, 50, 51, 52, 53, 54, 55, 56, 57, 58] (by kernel_rfl) ?_
        exact st_back back0 (5 + 1) (by first | omega | (simp only []; omega) | (simp; omega)) (by first | (refine b_eq (decide_eq_false ?_).symm; unfold uOk pos8 neg8 cnt1 LIM; omega) | (refine b_eq (decide_eq_decide.2 ?_); unfold uOk pos8 neg8 cnt1 LIM; rw [qt]; unfold dtot; omega) | omega | (simp only []; omega) | (simp; omega) | assumption | simp_all) (fun p hp => by first | exact hp | simp_all) (by kernel_rfl) (by kernel_rfl) (by kernel_rfl)
    · refine st_b 25 (bne_eq_false_iff_eq.2 (Classical.not_not.1 k25)) (by kernel_rfl) ?_
      refine st_i 45 .i64 (x' := 5 + 1) (Go.IntWalk.i64_in _ (by omega)) (by kernel_rfl) ?_
      refine st_forget [0, 1, 2, 3, 7, 8, 9, 10, 11, 12, 46, 47, 48, 49, 50, 51, 52, 53, 54, 55, 56, 57, 58] (by kernel_rfl) ?_
      exact st_back back0 (5 + 1) (by first | omega | (simp only []; omega) | (simp; omega)) (by first | (refine b_eq (decide_eq_false ?_).symm; unfold uOk pos8 neg8 cnt1 LIM; omega) | (refine b_eq (decide_eq_decide.2 ?_); unfold uOk pos8 neg8 cnt1 LIM; rw [qt]; unfold dtot; omega) | omega | (simp only []; omega) | (simp; omega) | assumption | simp_all) (fun p hp => by first | exact hp | simp_all) (by kernel_rfl) (by kernel_rfl) (by kernel_rfl)
  · have _hh := True.intro
    refine st_fn ent51 (wof_fn (mi) (by assumption)) sub0 (by kernel_rfl) ?_
    refine st_fn ent48 (wsign_fn (mi)) sub0 (by kernel_rfl) ?_
    by_cases k25 : cmpI mi 0 ≠ 0
    · refine st_b 25 (bne_iff_ne.2 k25) (by kernel_rfl) ?_
      by_cases k29 : cmpI mi 0 ≠ -1
      · refine st_b 29 (bne_iff_ne.2 k29) (by kernel_rfl) ?_
        exact st_retv Try.func62 (show Value.bool (false) = _ by (refine b_eq (decide_eq_false ?_).symm; unfold uOk pos8 neg8 cnt1 LIM; omega)) (by kernel_rfl)
      · refine st_b 29 (bne_eq_false_iff_eq.2 (Classical.not_not.1 k29)) (by kernel_rfl) ?_
        refine st_i 45 .i64 (x' := 6 + 1) (Go.IntWalk.i64_in _ (by omega)) (by kernel_rfl) ?_
        refine st_forget [0, 1, 2, 3, 7, 8, 9, 10, 11, 12, 46, 47, 48, 49, 50, 51, 52, 53, 54, 55, 56, 57, 58] (by kernel_rfl) ?_
        exact st_back back0 (6 + 1) (by first | omega | (simp only []; omega) | (simp; omega)) (by first | (refine b_eq (decide_eq_false ?_).symm; unfold uOk pos8 neg8 cnt1 LIM; omega) | (refine b_eq (decide_eq_decide.2 ?_); unfold uOk pos8 neg8 cnt1 LIM; rw [qt]; unfold dtot; omega) | omega | (simp only []; omega) | (simp; omega) | assumption | simp_all) (fun p hp => by first | exact hp | simp_all) (by kernel_rfl) (by kernel_rfl) (by kernel_rfl)
    · refine st_b 25 (bne_eq_false_iff_eq.2 (Classical.not_not.1 k25)) (by kernel_rfl) ?_
      refine st_i 45 .i64 (x' := 6 + 1) (Go.IntWalk.i64_in _ (by omega)) (by kernel_rfl) ?_
      refine st_forget [0, 1, 2, 3, 7, 8, 9, 10, 11, 12, 46, 47, 48, 49, 50, 51, 52, 53, 54, 55, 56, 57, 58] (by kernel_rfl) ?_
      exact st_back back0 (6 + 1) (by first | omega | (simp only []; omega) | (simp; omega)) (by first | (refine b_eq (decide_eq_false ?_).symm; unfold uOk pos8 neg8 cnt1 LIM; omega) | (refine b_eq (decide_eq_decide.2 ?_); unfold uOk pos8 neg8 cnt1 LIM; rw [qt]; unfold dtot; omega) | omega | (simp only []; omega) | (simp; omega) | assumption | simp_all) (fun p hp => by first | exact hp | simp_all) (by kernel_rfl) (by kernel_rfl) (by kernel_rfl)
  · have _hh := True.intro
    refine st_fn ent51 (wof_fn (s) (by assumption)) sub0 (by kernel_rfl) ?_
    refine st_fn ent48 (wsign_fn (s)) sub0 (by kernel_rfl) ?_
    by_cases k25 : cmpI s 0 ≠ 0
    · refine st_b 25 (bne_iff_ne.2 k25) (by kernel_rfl) ?_
      by_cases k29 : cmpI s 0 ≠ -1
      · refine st_b 29 (bne_iff_ne.2 k29) (by kernel_rfl) ?_
        exact st_retv Try.func62 (show Value.bool (false) = _ by (refine b_eq (decide_eq_false ?_).symm; unfold uOk pos8 neg8 cnt1 LIM; omega)) (by kernel_rfl)
      · refine st_b 29 (bne_eq_false_iff_eq.2 (Classical.not_not.1 k29)) (by kernel_rfl) ?_
        refine st_i 45 .i64 (x' := 7 + 1) (Go.IntWalk.i64_in _ (by omega)) (by kernel_rfl) ?_
        refine st_forget [0, 1, 2, 3, 7, 8, 9, 10, 11, 12, 46, 47, 48, 49, 50, 51, 52, 53, 54, 55, 56, 57, 58] (by kernel_rfl) ?_
        exact st_back back0 (7 + 1) (by first | omega | (simp only []; omega) | (simp; omega)) (by first | (refine b_eq (decide_eq_false ?_).symm; unfold uOk pos8 neg8 cnt1 LIM; omega) | (refine b_eq (decide_eq_decide.2 ?_); unfold uOk pos8 neg8 cnt1 LIM; rw [qt]; unfold dtot; omega) | omega | (simp only []; omega) | (simp; omega) | assumption | simp_all) (fun p hp => by first | exact hp | simp_all) (by kernel_rfl) (by kernel_rfl) (by kernel_rfl)
    · refine st_b 25 (bne_eq_false_iff_eq.2 (Classical.not_not.1 k25)) (by kernel_rfl) ?_
      refine st_i 45 .i64 (x' := 7 + 1) (Go.IntWalk.i64_in _ (by omega)) (by kernel_rfl) ?_
      refine st_forget [0, 1, 2, 3, 7, 8, 9, 10, 11, 12, 46, 47, 48, 49, 50, 51, 52, 53, 54, 55, 56, 57, 58] (by kernel_rfl) ?_
      exact st_back back0 (7 + 1) (by first | omega | (simp only []; omega) | (simp; omega)) (by first | (refine b_eq (decide_eq_false ?_).symm; unfold uOk pos8 neg8 cnt1 LIM; omega) | (refine b_eq (decide_eq_decide.2 ?_); unfold uOk pos8 neg8 cnt1 LIM; rw [qt]; unfold dtot; omega) | omega | (simp only []; omega) | (simp; omega) | assumption | simp_all) (fun p hp => by first | exact hp | simp_all) (by kernel_rfl) (by kernel_rfl) (by kernel_rfl)
  · have _hh := True.intro
    refine st_fn ent51 (wof_fn (n) (by assumption)) sub0 (by kernel_rfl) ?_
    refine st_fn ent48 (wsign_fn (n)) sub0 (by kernel_rfl) ?_
    by_cases k25 : cmpI n 0 ≠ 0
    · refine st_b 25 (bne_iff_ne.2 k25) (by kernel_rfl) ?_
      by_cases k29 : cmpI n 0 ≠ -1
      · refine st_b 29 (bne_iff_ne.2 k29) (by kernel_rfl) ?_
        exact st_retv Try.func62 (show Value.bool (false) = _ by (refine b_eq (decide_eq_false ?_).symm; unfold uOk pos8 neg8 cnt1 LIM; omega)) (by kernel_rfl)
      · refine st_b 29 (bne_eq_false_iff_eq.2 (Classical.not_not.1 k29)) (by kernel_rfl) ?_
        refine st_i 45 .i64 (x' := 8 + 1) (Go.IntWalk.i64_in _ (by omega)) (by kernel_rfl) ?_
        refine st_forget [0, 1, 2, 3, 7, 8, 9, 10, 11, 12, 46, 47, 48, 49, 50, 51, 52, 53, 54, 55, 56, 57, 58] (by kernel_rfl) ?_
        exact st_back back0 (8 + 1) (by first | omega | (simp only []; omega) | (simp; omega)) (by first | (refine b_eq (decide_eq_false ?_).symm; unfold uOk pos8 neg8 cnt1 LIM; omega) | (refine b_eq (decide_eq_decide.2 ?_); unfold uOk pos8 neg8 cnt1 LIM; rw [qt]; unfold dtot; omega) | omega | (simp only []; omega) | (simp; omega) | assumption | simp_all) (fun p hp => by first | exact hp | simp_all) (by kernel_rfl) (by kernel_rfl) (by kernel_rfl)
    · refine st_b 25 (bne_eq_false_iff_eq.2 (Classical.not_not.1 k25)) (by kernel_rfl) ?_
      refine st_i 45 .i64 (x' := 8 + 1) (Go.IntWalk.i64_in _ (by omega)) (by kernel_rfl) ?_
      refine st_forget [0, 1, 2, 3, 7, 8, 9, 10, 11, 12, 46, 47, 48, 49, 50, 51, 52, 53, 54, 55, 56, 57, 58] (by kernel_rfl) ?_
      exact st_back back0 (8 + 1) (by first | omega | (simp only []; omega) | (simp; omega)) (by first | (refine b_eq (decide_eq_false ?_).symm; unfold uOk pos8 neg8 cnt1 LIM; omega) | (refine b_eq (decide_eq_decide.2 ?_); unfold uOk pos8 neg8 cnt1 LIM; rw [qt]; unfold dtot; omega) | omega | (simp only []; omega) | (simp; omega) | assumption | simp_all) (fun p hp => by first | exact hp | simp_all) (by kernel_rfl) (by kernel_rfl) (by kernel_rfl)
  · have _hh := True.intro
    refine st_fn ent139 (ut) sub0 (by kernel_rfl) ?_
    refine st_fn ent140 (wneg_yes (dtot d h mi s n) (by assumption) (by assumption)) sub0 (by kernel_rfl) ?_
    refine st_fn ent141 (ulimit) sub0 (by kernel_rfl) ?_
    refine st_fn ent47 (wcmp_fn (-dtot d h mi s n) (9007199254740992000000000)) sub0 (by kernel_rfl) ?_
    exact st_retv Try.func62 (show Value.bool (decide (cmpI (-dtot d h mi s n) 9007199254740992000000000 < 0)) = _ by (refine b_eq (decide_eq_decide.2 ?_); unfold uOk pos8 neg8 cnt1 LIM; rw [qt]; unfold dtot; omega)) (by kernel_rfl)
theorem uright_z (i : all64 a b c d h mi s n) (hs : sg8 a b c d h mi s n = 0) (hk : a = 0 ∧ b = 0 ∧ c = 0 ∧ d = 0 ∧ h = 0 ∧ mi = 0 ∧ s = 0 ∧ n = 0) : Fn 62 [] [duv a b c d h mi s n] (.bool (decide (uOk a b c d h mi s n))) := by
  have us := usign a b c d h mi s n i
  rw [hs] at us
  obtain ⟨i1, i2, i3, i4, i5, i6, i7, i8⟩ := i
  have wt : W128 (dtot d h mi s n) ∧ W128 (-dtot d h mi s n) := by unfold I64 at *; unfold W128 dtot; omega
  obtain ⟨wt1, wt2⟩ := wt
  have ut := utot a b c d h mi s n i4 i5 i6 i7 i8
  have qt := cmpI_lt0 (a := dtot d h mi s n) (b := 9007199254740992000000000)
  refine fn_of Try.func62 rfl fun ww => ?_
  refine st_fn ent61 (us) sub0 (by kernel_rfl) ?_
  refine ufields_row 0 0 (by kernel_rfl) ?_
  refine st_forget [0, 1, 3, 7, 8, 9, 10, 11, 12, 46, 47, 48, 49, 50, 51, 52, 53, 54, 55, 56, 57, 58] (by kernel_rfl) ?_
  refine st_loop (X := Int) (fun x => ([SV.val (Value.agg #[Value.int IntKind.i64 a, Value.int IntKind.i64 b, Value.int IntKind.i64 c, Value.int IntKind.i64 d, Value.int IntKind.i64 h, Value.int IntKind.i64 mi, Value.int IntKind.i64 s, Value.int IntKind.i64 n]), SV.ptr 0 0, .any, SV.val (Value.int IntKind.i64 0), .any, .any, .any, SV.val (Value.tuple #[]), SV.val (Value.agg #[Value.int IntKind.i64 a, Value.int IntKind.i64 b, Value.int IntKind.i64 c, Value.int IntKind.i64 d, Value.int IntKind.i64 h, Value.int IntKind.i64 mi, Value.int IntKind.i64 s, Value.int IntKind.i64 n]), SV.val (Value.int IntKind.i64 0), SV.sl 1 0 9 9, SV.val (Value.int IntKind.i64 (↑9 : Int)), .val (.int .i64 x), .any, .any, .any, .any, .any, .any, .any, .any, .any, .any, .any, .any, .any, .any, .any, .any, .any, .any, .any, .any, .any, .any, .any, .any, .any, .any, .any, .any, .any, .any, .any, .any, .any, SV.val (Value.tuple #[]), SV.val (Value.tuple #[]), SV.val (Value.tuple #[]), SV.val (Value.tuple #[]), SV.val (Value.tuple #[]), SV.val (Value.tuple #[]), SV.val (Value.tuple #[]), SV.val (Value.tuple #[]), SV.val (Value.tuple #[]), SV.val (Value.tuple #[]), SV.val (Value.tuple #[]), SV.val (Value.tuple #[]), SV.val (Value.tuple #[])], [⟨[SV.val (Value.int IntKind.i64 a), SV.val (Value.int IntKind.i64 b), SV.val (Value.int IntKind.i64 c), SV.val (Value.int IntKind.i64 d), SV.val (Value.int IntKind.i64 h), SV.val (Value.int IntKind.i64 mi), SV.val (Value.int IntKind.i64 s), SV.val (Value.int IntKind.i64 n)], 70⟩, ⟨[SV.val (Value.pointer none), SV.ptr 0 0, SV.ptr 0 1, SV.ptr 0 2, SV.ptr 0 3, SV.ptr 0 4, SV.ptr 0 5, SV.ptr 0 6, SV.ptr 0 7], 169⟩])) (fun _ => _) (fun k => 0 ≤ k ∧ k ≤ 9 ∧ (1 < k → a = 0 ∧ -4294967295 ≤ a ∧ a ≤ 4294967295) ∧ (2 < k → b = 0 ∧ -4294967295 ≤ b ∧ b ≤ 4294967295) ∧ (3 < k → c = 0 ∧ -4294967295 ≤ c ∧ c ≤ 4294967295) ∧ (4 < k → d = 0) ∧ (5 < k → h = 0) ∧ (6 < k → mi = 0) ∧ (7 < k → s = 0) ∧ (8 < k → n = 0)) (fun k => (9 - k).toNat) (0) (by kernel_rfl) (by kernel_rfl) Sub.refl (by first | omega | (simp; omega) | assumption | simp_all) (fun y0 px0 back0 => ?_)
  (have q := cmpI_sg (fl8 a b c d h mi s n y0); have hk0 : y0 = 0 ∨ y0 = 1 ∨ y0 = 2 ∨ y0 = 3 ∨ y0 = 4 ∨ y0 = 5 ∨ y0 = 6 ∨ y0 = 7 ∨ y0 = 8 ∨ y0 = 9 := (by omega); rcases hk0 with rfl | rfl | rfl | rfl | rfl | rfl | rfl | rfl | rfl | rfl <;> simp only [fl8, Int.reduceEq, if_true, if_false] at q)
  · have _hh := True.intro
    refine st_i 45 .i64 (x' := 0 + 1) (Go.IntWalk.i64_in _ (by omega)) (by kernel_rfl) ?_
    refine st_forget [0, 1, 2, 3, 6, 7, 8, 9, 10, 11, 12, 19, 20, 21, 22, 23, 24, 25, 26, 27, 28, 29, 30, 31, 32, 33, 34, 35, 36, 37, 38, 39, 40, 41, 42, 43, 44, 46, 47, 48, 49, 50, 51, 52, 53, 54, 55, 56, 57, 58] (by kernel_rfl) ?_
    exact st_back back0 (0 + 1) (by first | omega | (simp only []; omega) | (simp; omega)) (by first | (refine b_eq (decide_eq_false ?_).symm; unfold uOk pos8 neg8 cnt1 LIM; omega) | (refine b_eq (decide_eq_decide.2 ?_); unfold uOk pos8 neg8 cnt1 LIM; rw [qt]; unfold dtot; omega) | omega | (simp only []; omega) | (simp; omega) | assumption | simp_all) (fun p hp => by first | exact hp | simp_all) (by kernel_rfl) (by kernel_rfl) (by kernel_rfl)
  · have _hh := True.intro
    refine st_fn ent51 (wof_fn (a) (by assumption)) sub0 (by kernel_rfl) ?_
    refine st_fn ent48 (wsign_fn (a)) sub0 (by kernel_rfl) ?_
    refine st_b 25 (show (cmpI a 0 != 0) = false by exact bne_eq_false_iff_eq.2 (by omega)) (by kernel_rfl) ?_
    refine st_b 37 (show (decide (a > 4294967295)) = false by exact decide_eq_false (by omega)) (by kernel_rfl) ?_
    refine st_b 42 (show (decide (a < -4294967295)) = false by exact decide_eq_false (by omega)) (by kernel_rfl) ?_
    refine st_i 45 .i64 (x' := 1 + 1) (Go.IntWalk.i64_in _ (by omega)) (by kernel_rfl) ?_
    refine st_forget [0, 1, 2, 3, 7, 8, 9, 10, 11, 12, 46, 47, 48, 49, 50, 51, 52, 53, 54, 55, 56, 57, 58] (by kernel_rfl) ?_
    exact st_back back0 (1 + 1) (by first | omega | (simp only []; omega) | (simp; omega)) (by first | (refine b_eq (decide_eq_false ?_).symm; unfold uOk pos8 neg8 cnt1 LIM; omega) | (refine b_eq (decide_eq_decide.2 ?_); unfold uOk pos8 neg8 cnt1 LIM; rw [qt]; unfold dtot; omega) | omega | (simp only []; omega) | (simp; omega) | assumption | simp_all) (fun p hp => by first | exact hp | simp_all) (by kernel_rfl) (by kernel_rfl) (by kernel_rfl)
  · have _hh := True.intro
    refine st_fn ent51 (wof_fn (b) (by assumption)) sub0 (by kernel_rfl) ?_
    refine st_fn ent48 (wsign_fn (b)) sub0 (by kernel_rfl) ?_
    refine st_b 25 (show (cmpI b 0 != 0) = false by exact bne_eq_false_iff_eq.2 (by omega)) (by kernel_rfl) ?_
    refine st_b 37 (show (decide (b > 4294967295)) = false by exact decide_eq_false (by omega)) (by kernel_rfl) ?_
    refine st_b 42 (show (decide (b < -4294967295)) = false by exact decide_eq_false (by omega)) (by kernel_rfl) ?_
    refine st_i 45 .i64 (x' := 2 + 1) (Go.IntWalk.i64_in _ (by omega)) (by kernel_rfl) ?_
    refine st_forget [0, 1, 2, 3, 7, 8, 9, 10, 11, 12, 46, 47, 48, 49, 50, 51, 52, 53, 54, 55, 56, 57, 58] (by kernel_rfl) ?_
    exact st_back back0 (2 + 1) (by first | omega | (simp only []; omega) | (simp; omega)) (by first | (refine b_eq (decide_eq_false ?_).symm; unfold uOk pos8 neg8 cnt1 LIM; omega) | (refine b_eq (decide_eq_decide.2 ?_); unfold uOk pos8 neg8 cnt1 LIM; rw [qt]; unfold dtot; omega) | omega | (simp only []; omega) | (simp; omega) | assumption | simp_all) (fun p hp => by first | exact hp | simp_all) (by kernel_rfl) (by kernel_rfl) (by kernel_rfl)
  · have _hh := True.intro
    refine st_fn ent51 (wof_fn (c) (by assumption)) sub0 (by kernel_rfl) ?_
    refine st_fn ent48 (wsign_fn (c)) sub0 (by kernel_rfl) ?_
    refine st_b 25 (show (cmpI c 0 != 0) = false by exact bne_eq_false_iff_eq.2 (by omega)) (by kernel_rfl) ?_
    refine st_b 37 (show (decide (c > 4294967295)) = false by exact decide_eq_false (by omega)) (by kernel_rfl) ?_
    refine st_b 42 (show (decide (c < -4294967295)) = false by exact decide_eq_false (by omega)) (by kernel_rfl) ?_
    refine st_i 45 .i64 (x' := 3 + 1) (Go.IntWalk.i64_in _ (by omega)) (by kernel_rfl) ?_
    refine st_forget [0, 1, 2, 3, 7, 8, 9, 10, 11, 12, 46, 47, 48, 49, 50, 51, 52, 53, 54, 55, 56, 57, 58] (by kernel_rfl) ?_
    exact st_back back0 (3 + 1) (by first | omega | (simp only []; omega) | (simp; omega)) (by first | (refine b_eq (decide_eq_false ?_).symm; unfold uOk pos8 neg8 cnt1 LIM; omega) | (refine b_eq (decide_eq_decide.2 ?_); unfold uOk pos8 neg8 cnt1 LIM; rw [qt]; unfold dtot; omega) | omega | (simp only []; omega) | (simp; omega) | assumption | simp_all) (fun p hp => by first | exact hp | simp_all) (by kernel_rfl) (by kernel_rfl) (by kernel_rfl)
  · have _hh := True.intro
    refine st_fn ent51 (wof_fn (d) (by assumption)) sub0 (by kernel_rfl) ?_
    refine st_fn ent48 (wsign_fn (d)) sub0 (by kernel_rfl) ?_
    refine st_b 25 (show (cmpI d 0 != 0) = false by exact bne_eq_false_iff_eq.2 (by omega)) (by kernel_rfl) ?_
    refine st_i 45 .i64 (x' := 4 + 1) (Go.IntWalk.i64_in _ (by omega)) (by kernel_rfl) ?_
    refine st_forget [0, 1, 2, 3, 7, 8, 9, 10, 11, 12, 46, 47, 48, 49, 50, 51, 52, 53, 54, 55, 56, 57, 58] (by kernel_rfl) ?_
    exact st_back back0 (4 + 1) (by first | omega | (simp only []; omega) | (simp; omega)) (by first | (refine b_eq (decide_eq_false ?_).symm; unfold uOk pos8 neg8 cnt1 LIM; omega) | (refine b_eq (decide_eq_decide.2 ?_); unfold uOk pos8 neg8 cnt1 LIM; rw [qt]; unfold dtot; omega) | omega | (simp only []; omega) | (simp; omega) | assumption | simp_all) (fun p hp => by first | exact hp | simp_all) (by kernel_rfl) (by kernel_rfl) (by kernel_rfl)
  · have _hh := True.intro
    refine st_fn ent51 (wof_fn (h) (by assumption)) sub0 (by kernel_rfl) ?_
    refine st_fn ent48 (wsign_fn (h)) sub0 (by kernel_rfl) ?_
    refine st_b 25 (show (cmpI h 0 != 0) = false by exact bne_eq_false_iff_eq.2 (by omega)) (by kernel_rfl) ?_
    refine st_i 45 .i64 (x' := 5 + 1) (Go.IntWalk.i64_in _ (by omega)) (by kernel_rfl) ?_
    refine st_forget [0, 1, 2, 3, 7, 8, 9, 10, 11, 12, 46, 47, 48, 49, 50, 51, 52, 53, 54, 55, 56, 57, 58] (by kernel_rfl) ?_
    exact st_back back0 (5 + 1) (by first | omega | (simp only []; omega) | (simp; omega)) (by first | (refine b_eq (decide_eq_false ?_).symm; unfold uOk pos8 neg8 cnt1 LIM; omega) | (refine b_eq (decide_eq_decide.2 ?_); unfold uOk pos8 neg8 cnt1 LIM; rw [qt]; unfold dtot; omega) | omega | (simp only []; omega) | (simp; omega) | assumption | simp_all) (fun p hp => by first | exact hp | simp_all) (by kernel_rfl) (by kernel_rfl) (by kernel_rfl)
  · have _hh := True.intro
    refine st_fn ent51 (wof_fn (mi) (by assumption)) sub0 (by kernel_rfl) ?_
    refine st_fn ent48 (wsign_fn (mi)) sub0 (by kernel_rfl) ?_
    refine st_b 25 (show (cmpI mi 0 != 0) = false by exact bne_eq_false_iff_eq.2 (by omega)) (by kernel_rfl) ?_
    refine st_i 45 .i64 (x' := 6 + 1) (Go.IntWalk.i64_in _ (by omega)) (by kernel_rfl) ?_
    refine st_forget [0, 1, 2, 3, 7, 8, 9, 10, 11, 12, 46, 47, 48, 49, 50, 51, 52, 53, 54, 55, 56, 57, 58] (by kernel_rfl) ?_
    exact st_back back0 (6 + 1) (by first | omega | (simp only []; omega) | (simp; omega)) (by first | (refine b_eq (decide_eq_false ?_).symm; unfold uOk pos8 neg8 cnt1 LIM; omega) | (refine b_eq (decide_eq_decide.2 ?_); unfold uOk pos8 neg8 cnt1 LIM; rw [qt]; unfold dtot; omega) | omega | (simp only []; omega) | (simp; omega) | assumption | simp_all) (fun p hp => by first | exact hp | simp_all) (by kernel_rfl) (by kernel_rfl) (by kernel_rfl)
  · have _hh := True.intro
    refine st_fn ent51 (wof_fn (s) (by assumption)) sub0 (by kernel_rfl) ?_
    refine st_fn ent48 (wsign_fn (s)) sub0 (by kernel_rfl) ?_
    refine st_b 25 (show (cmpI s 0 != 0) = false by exact bne_eq_false_iff_eq.2 (by omega)) (by kernel_rfl) ?_
    refine st_i 45 .i64 (x' := 7 + 1) (Go.IntWalk.i64_in _ (by omega)) (by kernel_rfl) ?_
    refine st_forget [0, 1, 2, 3, 7, 8, 9, 10, 11, 12, 46, 47, 48, 49, 50, 51, 52, 53, 54, 55, 56, 57, 58] (by kernel_rfl) ?_
    exact st_back back0 (7 + 1) (by first | omega | (simp only []; omega) | (simp; omega)) (by first | (refine b_eq (decide_eq_false ?_).symm; unfold uOk pos8 neg8 cnt1 LIM; omega) | (refine b_eq (decide_eq_decide.2 ?_); unfold uOk pos8 neg8 cnt1 LIM; rw [qt]; unfold dtot; omega) | omega | (simp only []; omega) | (simp; omega) | assumption | simp_all) (fun p hp => by first | exact hp | simp_all) (by kernel_rfl) (by kernel_rfl) (by kernel_rfl)
  · have _hh := True.intro
    refine st_fn ent51 (wof_fn (n) (by assumption)) sub0 (by kernel_rfl) ?_
    refine st_fn ent48 (wsign_fn (n)) sub0 (by kernel_rfl) ?_
    refine st_b 25 (show (cmpI n 0 != 0) = false by exact bne_eq_false_iff_eq.2 (by omega)) (by kernel_rfl) ?_
    refine st_i 45 .i64 (x' := 8 + 1) (Go.IntWalk.i64_in _ (by omega)) (by kernel_rfl) ?_
    refine st_forget [0, 1, 2, 3, 7, 8, 9, 10, 11, 12, 46, 47, 48, 49, 50, 51, 52, 53, 54, 55, 56, 57, 58] (by kernel_rfl) ?_
    exact st_back back0 (8 + 1) (by first | omega | (simp only []; omega) | (simp; omega)) (by first | (refine b_eq (decide_eq_false ?_).symm; unfold uOk pos8 neg8 cnt1 LIM; omega) | (refine b_eq (decide_eq_decide.2 ?_); unfold uOk pos8 neg8 cnt1 LIM; rw [qt]; unfold dtot; omega) | omega | (simp only []; omega) | (simp; omega) | assumption | simp_all) (fun p hp => by first | exact hp | simp_all) (by kernel_rfl) (by kernel_rfl) (by kernel_rfl)
  · have _hh := True.intro
    refine st_fn ent139 (ut) sub0 (by kernel_rfl) ?_
    refine st_fn ent141 (ulimit) sub0 (by kernel_rfl) ?_
    refine st_fn ent47 (wcmp_fn (dtot d h mi s n) (9007199254740992000000000)) sub0 (by kernel_rfl) ?_
    exact st_retv Try.func62 (show Value.bool (decide (cmpI (dtot d h mi s n) 9007199254740992000000000 < 0)) = _ by (refine b_eq (decide_eq_decide.2 ?_); unfold uOk pos8 neg8 cnt1 LIM; rw [qt]; unfold dtot; omega)) (by kernel_rfl)
end
end Go.Proofs.Ytcndfpfjckkinaa
end
section
/-
  Durations: what may be, as the reference reckons it.
-/
set_option linter.unusedVariables false
set_option maxRecDepth 100000
namespace Go.Proofs.Ytcndfpfjckkinaa
open Go Go.RowKit Go.Ev

theorem z0_is (w : World) : ZOf ⟨false, none, 0, 0⟩ 0 w := isZ_zero w
section
variable {f0 : FuncId} {E : List TypeId} {w0 : World} {R : Ending → World → Prop} {L : ZL} {c : Cf}
/-- The zero value is the number 0. -/
theorem st_zero (hk : Ru ⟨Try.prog, f0, E, w0, R⟩ (ZAll ((⟨false, none, 0, 0⟩, 0) :: L)) c) (hE : E = [3] := by rfl) : Ru ⟨Try.prog, f0, E, w0, R⟩ (ZAll L) c := by
  subst hE
  refine ⟨hk.h.mono (ZAll.stable _) fun w hw p hp => ?_⟩
  rcases List.mem_cons.1 hp with rfl | hp
  · exact z0_is w
  · exact hw p hp
end
theorem sg8_1 {a b c d h mi s n : Int} (q : 0 < a ∨ a = 0 ∧ (0 < b ∨ b = 0 ∧ (0 < c ∨ c = 0 ∧ (0 < d ∨ d = 0 ∧ (0 < h ∨ h = 0 ∧ (0 < mi ∨ mi = 0 ∧ (0 < s ∨ s = 0 ∧ (0 < n)))))))) : sg8 a b c d h mi s n = 1 := by
  unfold sg8
  by_cases ka : a = 0
  rotate_left
  · rw [if_pos (by omega)]; have := cmpI_sg a; omega
  rw [if_neg (by omega)]
  by_cases kb : b = 0
  rotate_left
  · rw [if_pos (by omega)]; have := cmpI_sg b; omega
  rw [if_neg (by omega)]
  by_cases kc : c = 0
  rotate_left
  · rw [if_pos (by omega)]; have := cmpI_sg c; omega
  rw [if_neg (by omega)]
  by_cases kd : d = 0
  rotate_left
  · rw [if_pos (by omega)]; have := cmpI_sg d; omega
  rw [if_neg (by omega)]
  by_cases kh : h = 0
  rotate_left
  · rw [if_pos (by omega)]; have := cmpI_sg h; omega
  rw [if_neg (by omega)]
  by_cases kmi : mi = 0
  rotate_left
  · rw [if_pos (by omega)]; have := cmpI_sg mi; omega
  rw [if_neg (by omega)]
  by_cases ks : s = 0
  rotate_left
  · rw [if_pos (by omega)]; have := cmpI_sg s; omega
  rw [if_neg (by omega)]
  have := cmpI_sg n; omega
theorem sg8_m {a b c d h mi s n : Int} (q : a < 0 ∨ a = 0 ∧ (b < 0 ∨ b = 0 ∧ (c < 0 ∨ c = 0 ∧ (d < 0 ∨ d = 0 ∧ (h < 0 ∨ h = 0 ∧ (mi < 0 ∨ mi = 0 ∧ (s < 0 ∨ s = 0 ∧ (n < 0)))))))) : sg8 a b c d h mi s n = -1 := by
  unfold sg8
  by_cases ka : a = 0
  rotate_left
  · rw [if_pos (by omega)]; have := cmpI_sg a; omega
  rw [if_neg (by omega)]
  by_cases kb : b = 0
  rotate_left
  · rw [if_pos (by omega)]; have := cmpI_sg b; omega
  rw [if_neg (by omega)]
  by_cases kc : c = 0
  rotate_left
  · rw [if_pos (by omega)]; have := cmpI_sg c; omega
  rw [if_neg (by omega)]
  by_cases kd : d = 0
  rotate_left
  · rw [if_pos (by omega)]; have := cmpI_sg d; omega
  rw [if_neg (by omega)]
  by_cases kh : h = 0
  rotate_left
  · rw [if_pos (by omega)]; have := cmpI_sg h; omega
  rw [if_neg (by omega)]
  by_cases kmi : mi = 0
  rotate_left
  · rw [if_pos (by omega)]; have := cmpI_sg mi; omega
  rw [if_neg (by omega)]
  by_cases ks : s = 0
  rotate_left
  · rw [if_pos (by omega)]; have := cmpI_sg s; omega
  rw [if_neg (by omega)]
  have := cmpI_sg n; omega
theorem sg8_0 {a b c d h mi s n : Int} (q : a = 0 ∧ b = 0 ∧ c = 0 ∧ d = 0 ∧ h = 0 ∧ mi = 0 ∧ s = 0 ∧ n = 0) : sg8 a b c d h mi s n = 0 := by
  unfold sg8
  by_cases ka : a = 0
  rotate_left
  · rw [if_pos (by omega)]; have := cmpI_sg a; omega
  rw [if_neg (by omega)]
  by_cases kb : b = 0
  rotate_left
  · rw [if_pos (by omega)]; have := cmpI_sg b; omega
  rw [if_neg (by omega)]
  by_cases kc : c = 0
  rotate_left
  · rw [if_pos (by omega)]; have := cmpI_sg c; omega
  rw [if_neg (by omega)]
  by_cases kd : d = 0
  rotate_left
  · rw [if_pos (by omega)]; have := cmpI_sg d; omega
  rw [if_neg (by omega)]
  by_cases kh : h = 0
  rotate_left
  · rw [if_pos (by omega)]; have := cmpI_sg h; omega
  rw [if_neg (by omega)]
  by_cases kmi : mi = 0
  rotate_left
  · rw [if_pos (by omega)]; have := cmpI_sg mi; omega
  rw [if_neg (by omega)]
  by_cases ks : s = 0
  rotate_left
  · rw [if_pos (by omega)]; have := cmpI_sg s; omega
  rw [if_neg (by omega)]
  have := cmpI_sg n; omega
theorem zulen4 : Fn 64 [] [.int .i64 4] (.int .i64 86400000000000) := by
  refine fn_of Try.func64 rfl fun ww => ?_
  exact st_ret Try.func64 (by kernel_rfl)
theorem zulen5 : Fn 64 [] [.int .i64 5] (.int .i64 3600000000000) := by
  refine fn_of Try.func64 rfl fun ww => ?_
  exact st_ret Try.func64 (by kernel_rfl)
theorem zulen6 : Fn 64 [] [.int .i64 6] (.int .i64 60000000000) := by
  refine fn_of Try.func64 rfl fun ww => ?_
  exact st_ret Try.func64 (by kernel_rfl)
theorem zulen7 : Fn 64 [] [.int .i64 7] (.int .i64 1000000000) := by
  refine fn_of Try.func64 rfl fun ww => ?_
  exact st_ret Try.func64 (by kernel_rfl)
theorem zulen8 : Fn 64 [] [.int .i64 8] (.int .i64 1) := by
  refine fn_of Try.func64 rfl fun ww => ?_
  exact st_ret Try.func64 (by kernel_rfl)
theorem zulen_o (u : Int) (h : u < 4 ∨ 8 < u) : Fn 64 [] [.int .i64 u] (.int .i64 0) := by
  by_cases k : u < 4
  · refine fn_of Try.func64 rfl fun ww => ?_
    refine st_b 5 (show (u == 4) = false by exact decide_eq_false (by omega)) (by kernel_rfl) ?_
    refine st_b 7 (show (u == 5) = false by exact decide_eq_false (by omega)) (by kernel_rfl) ?_
    refine st_b 9 (show (u == 6) = false by exact decide_eq_false (by omega)) (by kernel_rfl) ?_
    refine st_b 11 (show (u == 7) = false by exact decide_eq_false (by omega)) (by kernel_rfl) ?_
    refine st_b 13 (show (u == 8) = false by exact decide_eq_false (by omega)) (by kernel_rfl) ?_
    exact st_ret Try.func64 (by kernel_rfl)
  · have k' : 8 < u := by omega
    refine fn_of Try.func64 rfl fun ww => ?_
    refine st_b 5 (show (u == 4) = false by exact decide_eq_false (by omega)) (by kernel_rfl) ?_
    refine st_b 7 (show (u == 5) = false by exact decide_eq_false (by omega)) (by kernel_rfl) ?_
    refine st_b 9 (show (u == 6) = false by exact decide_eq_false (by omega)) (by kernel_rfl) ?_
    refine st_b 11 (show (u == 7) = false by exact decide_eq_false (by omega)) (by kernel_rfl) ?_
    refine st_b 13 (show (u == 8) = false by exact decide_eq_false (by omega)) (by kernel_rfl) ?_
    exact st_ret Try.func64 (by kernel_rfl)
theorem zulen_fn (u : Int) : Fn 64 [] [.int .i64 u] (.int .i64 (ulen u)) := by
  by_cases h : 4 ≤ u ∧ u ≤ 8
  · rcases units h.1 h.2 with rfl | rfl | rfl | rfl | rfl
    · exact zulen4
    · exact zulen5
    · exact zulen6
    · exact zulen7
    · exact zulen8
  · rw [ulen_no (by omega)]
    exact zulen_o u (by omega)
section
variable (a b c d h mi s n : Int)
theorem zufields : FnB 97 [duv a b c d h mi s n] [.int .i64 a, .int .i64 b, .int .i64 c, .int .i64 d, .int .i64 h, .int .i64 mi, .int .i64 s, .int .i64 n] 2 8 := by
  refine fnB_of Try.func97 rfl fun ww => ?_
  exact st_retB Try.func97 (by kernel_rfl)
theorem zumade : Fn 137 [] [duv a b c d h mi s n] (duv a b c d h mi s n) := by
  refine fn_of Try.func137 rfl fun ww => ?_
  exact st_ret Try.func137 (by kernel_rfl)
theorem fzadd0 (q : ZQ) (y : Int) (hy : Fit y) : FnZ 125 [(⟨false, none, 0, 0⟩, 0), (q, y)] [.agg #[.bool false, .slice none 0 0], zv q] zv (0 + y) := fzadd ⟨false, none, 0, 0⟩ q 0 y (Bits.fit (k := 1) (by unfold Bits; decide) (by decide)) hy
theorem zutot (i1 : I64 d) (i2 : I64 h) (i3 : I64 mi) (i4 : I64 s) (i5 : I64 n) : FnZ 59 [] [duv a b c d h mi s n] zv (dtot d h mi s n) := by
  have j1 : I64 86400000000000 := by unfold I64; omega
  have j2 : I64 3600000000000 := by unfold I64; omega
  have j3 : I64 60000000000 := by unfold I64; omega
  have j4 : I64 1000000000 := by unfold I64; omega
  have j5 : I64 1 := by unfold I64; omega
  refine fnG_of Try.func59 rfl fun ww => ?_
  refine st_zero ?_
  refine st_rowB ent97 (zufields (a) (b) (c) (d) (h) (mi) (s) (n)) (by kernel_rfl) ?_
  refine st_round (by kernel_rfl) ?_
  refine st_i 22 .i64 (x' := 3 + 1) (Go.IntWalk.i64_in _ (by omega)) (by kernel_rfl) ?_
  refine st_g ent109 (fzint (d) (by assumption)) sub0 (by kernel_rfl) (fun zq1 => ?_)
  refine st_fn ent64 (zulen4) sub0 (by kernel_rfl) ?_
  refine st_g ent109 (fzint (86400000000000) (by assumption)) sub0 (by kernel_rfl) (fun zq3 => ?_)
  refine st_g ent112 (fzmul (zq1) (zq3) (d) (86400000000000) (by exact Bits.fit i1.w.bits (by decide)) (by exact Bits.fit j1.w.bits (by decide))) (subC 1 rfl (subC 0 rfl sub0)) (by kernel_rfl) (fun zq4 => ?_)
  refine st_g ent125 (fzadd0 (zq4) (d * 86400000000000) (by exact Bits.fit (Bits.mul i1.w.bits j1.w.bits) (by decide))) (subC 3 rfl (subC 0 rfl sub0)) (by kernel_rfl) (fun zq5 => ?_)
  refine st_i 14 .i64 (x' := 3 + 1) (Go.IntWalk.i64_in _ (by omega)) (by kernel_rfl) ?_
  refine st_round (by kernel_rfl) ?_
  refine st_i 22 .i64 (x' := 3 + 1 + 1) (Go.IntWalk.i64_in _ (by omega)) (by kernel_rfl) ?_
  refine st_g ent109 (fzint (h) (by assumption)) sub0 (by kernel_rfl) (fun zq6 => ?_)
  refine st_fn ent64 (zulen5) sub0 (by kernel_rfl) ?_
  refine st_g ent109 (fzint (3600000000000) (by assumption)) sub0 (by kernel_rfl) (fun zq8 => ?_)
  refine st_g ent112 (fzmul (zq6) (zq8) (h) (3600000000000) (by exact Bits.fit i2.w.bits (by decide)) (by exact Bits.fit j2.w.bits (by decide))) (subC 1 rfl (subC 0 rfl sub0)) (by kernel_rfl) (fun zq9 => ?_)
  refine st_g ent125 (fzadd (zq5) (zq9) (0 + d * 86400000000000) (h * 3600000000000) (by exact Bits.fit (Bits.add (Bits.mono (l := 256) (show Bits 64 (0) from (by unfold Bits; decide)) (by decide)) (Bits.mono (l := 256) (Bits.mul i1.w.bits j1.w.bits) (by decide))) (by decide)) (by exact Bits.fit (Bits.mul i2.w.bits j2.w.bits) (by decide))) (subC 3 rfl (subC 0 rfl sub0)) (by kernel_rfl) (fun zq10 => ?_)
  refine st_i 14 .i64 (x' := 3 + 1 + 1) (Go.IntWalk.i64_in _ (by omega)) (by kernel_rfl) ?_
  refine st_round (by kernel_rfl) ?_
  refine st_i 22 .i64 (x' := 3 + 1 + 1 + 1) (Go.IntWalk.i64_in _ (by omega)) (by kernel_rfl) ?_
  refine st_g ent109 (fzint (mi) (by assumption)) sub0 (by kernel_rfl) (fun zq11 => ?_)
  refine st_fn ent64 (zulen6) sub0 (by kernel_rfl) ?_
  refine st_g ent109 (fzint (60000000000) (by assumption)) sub0 (by kernel_rfl) (fun zq13 => ?_)
  refine st_g ent112 (fzmul (zq11) (zq13) (mi) (60000000000) (by exact Bits.fit i3.w.bits (by decide)) (by exact Bits.fit j3.w.bits (by decide))) (subC 1 rfl (subC 0 rfl sub0)) (by kernel_rfl) (fun zq14 => ?_)
  refine st_g ent125 (fzadd (zq10) (zq14) (0 + d * 86400000000000 + h * 3600000000000) (mi * 60000000000) (by exact Bits.fit (Bits.add (Bits.mono (l := 257) (Bits.add (Bits.mono (l := 256) (show Bits 64 (0) from (by unfold Bits; decide)) (by decide)) (Bits.mono (l := 256) (Bits.mul i1.w.bits j1.w.bits) (by decide))) (by decide)) (Bits.mono (l := 257) (Bits.mul i2.w.bits j2.w.bits) (by decide))) (by decide)) (by exact Bits.fit (Bits.mul i3.w.bits j3.w.bits) (by decide))) (subC 3 rfl (subC 0 rfl sub0)) (by kernel_rfl) (fun zq15 => ?_)
  refine st_i 14 .i64 (x' := 3 + 1 + 1 + 1) (Go.IntWalk.i64_in _ (by omega)) (by kernel_rfl) ?_
  refine st_round (by kernel_rfl) ?_
  refine st_i 22 .i64 (x' := 3 + 1 + 1 + 1 + 1) (Go.IntWalk.i64_in _ (by omega)) (by kernel_rfl) ?_
  refine st_g ent109 (fzint (s) (by assumption)) sub0 (by kernel_rfl) (fun zq16 => ?_)
  refine st_fn ent64 (zulen7) sub0 (by kernel_rfl) ?_
  refine st_g ent109 (fzint (1000000000) (by assumption)) sub0 (by kernel_rfl) (fun zq18 => ?_)
  refine st_g ent112 (fzmul (zq16) (zq18) (s) (1000000000) (by exact Bits.fit i4.w.bits (by decide)) (by exact Bits.fit j4.w.bits (by decide))) (subC 1 rfl (subC 0 rfl sub0)) (by kernel_rfl) (fun zq19 => ?_)
  refine st_g ent125 (fzadd (zq15) (zq19) (0 + d * 86400000000000 + h * 3600000000000 + mi * 60000000000) (s * 1000000000) (by exact Bits.fit (Bits.add (Bits.mono (l := 258) (Bits.add (Bits.mono (l := 257) (Bits.add (Bits.mono (l := 256) (show Bits 64 (0) from (by unfold Bits; decide)) (by decide)) (Bits.mono (l := 256) (Bits.mul i1.w.bits j1.w.bits) (by decide))) (by decide)) (Bits.mono (l := 257) (Bits.mul i2.w.bits j2.w.bits) (by decide))) (by decide)) (Bits.mono (l := 258) (Bits.mul i3.w.bits j3.w.bits) (by decide))) (by decide)) (by exact Bits.fit (Bits.mul i4.w.bits j4.w.bits) (by decide))) (subC 3 rfl (subC 0 rfl sub0)) (by kernel_rfl) (fun zq20 => ?_)
  refine st_i 14 .i64 (x' := 3 + 1 + 1 + 1 + 1) (Go.IntWalk.i64_in _ (by omega)) (by kernel_rfl) ?_
  refine st_round (by kernel_rfl) ?_
  refine st_i 22 .i64 (x' := 3 + 1 + 1 + 1 + 1 + 1) (Go.IntWalk.i64_in _ (by omega)) (by kernel_rfl) ?_
  refine st_g ent109 (fzint (n) (by assumption)) sub0 (by kernel_rfl) (fun zq21 => ?_)
  refine st_fn ent64 (zulen8) sub0 (by kernel_rfl) ?_
  refine st_g ent109 (fzint (1) (by assumption)) sub0 (by kernel_rfl) (fun zq23 => ?_)
  refine st_g ent112 (fzmul (zq21) (zq23) (n) (1) (by exact Bits.fit i5.w.bits (by decide)) (by exact Bits.fit j5.w.bits (by decide))) (subC 1 rfl (subC 0 rfl sub0)) (by kernel_rfl) (fun zq24 => ?_)
  refine st_g ent125 (fzadd (zq20) (zq24) (0 + d * 86400000000000 + h * 3600000000000 + mi * 60000000000 + s * 1000000000) (n * 1) (by exact Bits.fit (Bits.add (Bits.mono (l := 259) (Bits.add (Bits.mono (l := 258) (Bits.add (Bits.mono (l := 257) (Bits.add (Bits.mono (l := 256) (show Bits 64 (0) from (by unfold Bits; decide)) (by decide)) (Bits.mono (l := 256) (Bits.mul i1.w.bits j1.w.bits) (by decide))) (by decide)) (Bits.mono (l := 257) (Bits.mul i2.w.bits j2.w.bits) (by decide))) (by decide)) (Bits.mono (l := 258) (Bits.mul i3.w.bits j3.w.bits) (by decide))) (by decide)) (Bits.mono (l := 259) (Bits.mul i4.w.bits j4.w.bits) (by decide))) (by decide)) (by exact Bits.fit (Bits.mul i5.w.bits j5.w.bits) (by decide))) (subC 3 rfl (subC 0 rfl sub0)) (by kernel_rfl) (fun zq25 => ?_)
  refine st_i 14 .i64 (x' := 3 + 1 + 1 + 1 + 1 + 1) (Go.IntWalk.i64_in _ (by omega)) (by kernel_rfl) ?_
  refine st_round (by kernel_rfl) ?_
  exact st_retG (zq25) Try.func59 (subE 0 rfl (by (unfold dtot; omega)) sub0) (by kernel_rfl)
theorem zpow53 : FnZ 126 [] [.int .i64 53] zv (P 53) := fun w _ => (power_any 53 w (by omega)).mono fun _ _ => zret
theorem zulimit : FnZ 142 [] [] zv 9007199254740992000000000 := by
  have i1 : I64 1000000000 := by unfold I64; omega
  have b1 : Bits 54 (P 53) := Bits.P 53
  refine fnG_of Try.func142 rfl fun ww => ?_
  refine st_g ent126 (zpow53) sub0 (by kernel_rfl) (fun zq0 => ?_)
  refine st_g ent109 (fzint (1000000000) (by assumption)) sub0 (by kernel_rfl) (fun zq1 => ?_)
  refine st_g ent112 (fzmul (zq0) (zq1) (P 53) (1000000000) (by exact Bits.fit b1 (by decide)) (by exact Bits.fit i1.w.bits (by decide))) (subC 1 rfl (subC 0 rfl sub0)) (by kernel_rfl) (fun zq2 => ?_)
  exact st_retG (zq2) Try.func142 (subE 0 rfl (by rfl) sub0) (by kernel_rfl)
end
end Go.Proofs.Ytcndfpfjckkinaa
end
section
/-
  Durations: what may be, as the reference reckons it: no field below 0.
-/
set_option linter.unusedVariables false
set_option maxRecDepth 100000
namespace Go.Proofs.Ytcndfpfjckkinaa
open Go Go.RowKit Go.Ev

section
variable (a b c d h mi s n : Int)
theorem zuright_p (i : all64 a b c d h mi s n) (hk : pos8 a b c d h mi s n) : Fn 67 [] [duv a b c d h mi s n] (.bool (decide (uOk a b c d h mi s n))) := by
  obtain ⟨i1, i2, i3, i4, i5, i6, i7, i8⟩ := i
  have bt : W128 (dtot d h mi s n) := by unfold I64 at *; unfold W128 dtot; omega
  have bl : W128 9007199254740992000000000 := by unfold W128; omega
  have ut := zutot a b c d h mi s n i4 i5 i6 i7 i8
  obtain ⟨X, hX⟩ : ∃ X : Int, X = ((dtot d h mi s n).natAbs : Int) := ⟨_, rfl⟩
  have bX : Bits 128 X := by rw [hX]; exact bt.bits.abs
  have fa : ∀ p : ZQ, FnZ 136 [(p, dtot d h mi s n)] [zv p] zv X := fun p => by rw [hX]; exact fzabs p _ (bt.bits.fit (by decide))
  have qt := cmpI_lt0 (a := X) (b := 9007199254740992000000000)
  unfold pos8 at hk
  obtain ⟨k1, k2, k3, k4, k5, k6, k7, k8⟩ := hk
  refine fn_of Try.func67 rfl fun ww => ?_
  refine st_rowB ent97 (zufields (a) (b) (c) (d) (h) (mi) (s) (n)) (by kernel_rfl) ?_
  refine st_forget [0, 1, 3, 4, 5, 6, 7, 8, 47, 48, 49, 50, 51, 52, 53, 54, 55, 56, 57, 58, 59] (by kernel_rfl) ?_
  refine st_loop (X := Int × Bool) (fun x => ([SV.val (Value.agg #[Value.int IntKind.i64 a, Value.int IntKind.i64 b, Value.int IntKind.i64 c, Value.int IntKind.i64 d, Value.int IntKind.i64 h, Value.int IntKind.i64 mi, Value.int IntKind.i64 s, Value.int IntKind.i64 n]), SV.ptr 0 0, .any, SV.sl 1 0 8 8, .val (.bool x.2), .val (.bool false), .val (.int .i64 x.1), SV.val (Value.agg #[Value.int IntKind.i64 a, Value.int IntKind.i64 b, Value.int IntKind.i64 c, Value.int IntKind.i64 d, Value.int IntKind.i64 h, Value.int IntKind.i64 mi, Value.int IntKind.i64 s, Value.int IntKind.i64 n]), SV.sl 1 0 8 8, .any, .any, .any, .any, .any, .any, .any, .any, .any, .any, .any, .any, .any, .any, .any, .any, .any, .any, .any, .any, .any, .any, .any, .any, .any, .any, .any, .any, .any, .any, .any, .any, .any, .any, .any, .any, .any, .any, SV.val (Value.tuple #[]), SV.val (Value.tuple #[]), SV.val (Value.tuple #[]), SV.val (Value.tuple #[]), SV.val (Value.tuple #[]), SV.val (Value.tuple #[]), SV.val (Value.tuple #[]), SV.val (Value.tuple #[]), SV.val (Value.tuple #[]), SV.val (Value.tuple #[]), SV.val (Value.tuple #[]), SV.val (Value.tuple #[]), SV.val (Value.tuple #[])], [⟨[SV.val (Value.int IntKind.i64 a), SV.val (Value.int IntKind.i64 b), SV.val (Value.int IntKind.i64 c), SV.val (Value.int IntKind.i64 d), SV.val (Value.int IntKind.i64 h), SV.val (Value.int IntKind.i64 mi), SV.val (Value.int IntKind.i64 s), SV.val (Value.int IntKind.i64 n)], 70⟩, ⟨[SV.val (Value.int IntKind.i64 a), SV.val (Value.int IntKind.i64 b), SV.val (Value.int IntKind.i64 c), SV.val (Value.int IntKind.i64 d), SV.val (Value.int IntKind.i64 h), SV.val (Value.int IntKind.i64 mi), SV.val (Value.int IntKind.i64 s), SV.val (Value.int IntKind.i64 n)], 2⟩])) (fun _ => _) (fun k => 0 ≤ k.1 ∧ k.1 ≤ 8 ∧ (0 < k.1 → -4294967295 ≤ a ∧ a ≤ 4294967295) ∧ (1 < k.1 → -4294967295 ≤ b ∧ b ≤ 4294967295) ∧ (2 < k.1 → -4294967295 ≤ c ∧ c ≤ 4294967295)) (fun k => (8 - k.1).toNat) ((0, false)) (by kernel_rfl) (by kernel_rfl) Sub.refl (by first | omega | (simp; omega) | assumption | simp_all) (fun x px0 back0 => ?_)
  rcases x with ⟨y0_0, y0_1⟩
  simp only at px0
  (have hk0 : y0_0 = 0 ∨ y0_0 = 1 ∨ y0_0 = 2 ∨ y0_0 = 3 ∨ y0_0 = 4 ∨ y0_0 = 5 ∨ y0_0 = 6 ∨ y0_0 = 7 ∨ y0_0 = 8 := (by omega); rcases hk0 with rfl | rfl | rfl | rfl | rfl | rfl | rfl | rfl | rfl <;> rcases y0_1 with _ | _)
  · have _hh := True.intro
    by_cases k21 : a > 0
    · refine st_b 21 (decide_eq_true k21) (by kernel_rfl) ?_
      refine st_b 29 (show (decide (a < 0)) = false by exact decide_eq_false (by omega)) (by kernel_rfl) ?_
      by_cases k38 : a > 4294967295
      · refine st_b 38 (decide_eq_true k38) (by kernel_rfl) ?_
        exact st_retv Try.func67 (show Value.bool (false) = _ by (refine b_eq (decide_eq_false ?_).symm; unfold uOk pos8 neg8 cnt1 LIM; omega)) (by kernel_rfl)
      · refine st_b 38 (decide_eq_false k38) (by kernel_rfl) ?_
        refine st_b 44 (show (decide (a < -4294967295)) = false by exact decide_eq_false (by omega)) (by kernel_rfl) ?_
        refine st_i 14 .i64 (x' := 0 + 1) (Go.IntWalk.i64_in _ (by omega)) (by kernel_rfl) ?_
        refine st_forget [0, 1, 2, 3, 4, 5, 6, 7, 8, 47, 48, 49, 50, 51, 52, 53, 54, 55, 56, 57, 58, 59] (by kernel_rfl) ?_
        exact st_back back0 ((0 + 1, true)) (by first | omega | (simp only []; omega) | (simp; omega)) (by first | (refine b_eq (decide_eq_false ?_).symm; unfold uOk pos8 neg8 cnt1 LIM; omega) | (refine b_eq (decide_eq_decide.2 ?_); rw [qt]; unfold uOk pos8 neg8 cnt1 LIM; omega) | omega | (simp only []; omega) | (simp; omega) | assumption | simp_all) (fun p hp => by first | exact hp | simp_all) (by kernel_rfl) (by kernel_rfl) (by kernel_rfl)
    · refine st_b 21 (decide_eq_false k21) (by kernel_rfl) ?_
      refine st_b 29 (show (decide (a < 0)) = false by exact decide_eq_false (by omega)) (by kernel_rfl) ?_
      refine st_b 38 (show (decide (a > 4294967295)) = false by exact decide_eq_false (by omega)) (by kernel_rfl) ?_
      refine st_b 44 (show (decide (a < -4294967295)) = false by exact decide_eq_false (by omega)) (by kernel_rfl) ?_
      refine st_i 14 .i64 (x' := 0 + 1) (Go.IntWalk.i64_in _ (by omega)) (by kernel_rfl) ?_
      refine st_forget [0, 1, 2, 3, 4, 5, 6, 7, 8, 47, 48, 49, 50, 51, 52, 53, 54, 55, 56, 57, 58, 59] (by kernel_rfl) ?_
      exact st_back back0 ((0 + 1, false)) (by first | omega | (simp only []; omega) | (simp; omega)) (by first | (refine b_eq (decide_eq_false ?_).symm; unfold uOk pos8 neg8 cnt1 LIM; omega) | (refine b_eq (decide_eq_decide.2 ?_); rw [qt]; unfold uOk pos8 neg8 cnt1 LIM; omega) | omega | (simp only []; omega) | (simp; omega) | assumption | simp_all) (fun p hp => by first | exact hp | simp_all) (by kernel_rfl) (by kernel_rfl) (by kernel_rfl)
  · have _hh := True.intro
    refine st_b 29 (show (decide (a < 0)) = false by exact decide_eq_false (by omega)) (by kernel_rfl) ?_
    by_cases k38 : a > 4294967295
    · refine st_b 38 (decide_eq_true k38) (by kernel_rfl) ?_
      exact st_retv Try.func67 (show Value.bool (false) = _ by (refine b_eq (decide_eq_false ?_).symm; unfold uOk pos8 neg8 cnt1 LIM; omega)) (by kernel_rfl)
    · refine st_b 38 (decide_eq_false k38) (by kernel_rfl) ?_
      refine st_b 44 (show (decide (a < -4294967295)) = false by exact decide_eq_false (by omega)) (by kernel_rfl) ?_
      refine st_i 14 .i64 (x' := 0 + 1) (Go.IntWalk.i64_in _ (by omega)) (by kernel_rfl) ?_
      refine st_forget [0, 1, 2, 3, 4, 5, 6, 7, 8, 47, 48, 49, 50, 51, 52, 53, 54, 55, 56, 57, 58, 59] (by kernel_rfl) ?_
      exact st_back back0 ((0 + 1, true)) (by first | omega | (simp only []; omega) | (simp; omega)) (by first | (refine b_eq (decide_eq_false ?_).symm; unfold uOk pos8 neg8 cnt1 LIM; omega) | (refine b_eq (decide_eq_decide.2 ?_); rw [qt]; unfold uOk pos8 neg8 cnt1 LIM; omega) | omega | (simp only []; omega) | (simp; omega) | assumption | simp_all) (fun p hp => by first | exact hp | simp_all) (by kernel_rfl) (by kernel_rfl) (by kernel_rfl)
  · have _hh := True.intro
    by_cases k21 : b > 0
    · refine st_b 21 (decide_eq_true k21) (by kernel_rfl) ?_
      refine st_b 29 (show (decide (b < 0)) = false by exact decide_eq_false (by omega)) (by kernel_rfl) ?_
      by_cases k38 : b > 4294967295
      · refine st_b 38 (decide_eq_true k38) (by kernel_rfl) ?_
        exact st_retv Try.func67 (show Value.bool (false) = _ by (refine b_eq (decide_eq_false ?_).symm; unfold uOk pos8 neg8 cnt1 LIM; omega)) (by kernel_rfl)
      · refine st_b 38 (decide_eq_false k38) (by kernel_rfl) ?_
        refine st_b 44 (show (decide (b < -4294967295)) = false by exact decide_eq_false (by omega)) (by kernel_rfl) ?_
        refine st_i 14 .i64 (x' := 1 + 1) (Go.IntWalk.i64_in _ (by omega)) (by kernel_rfl) ?_
        refine st_forget [0, 1, 2, 3, 4, 5, 6, 7, 8, 47, 48, 49, 50, 51, 52, 53, 54, 55, 56, 57, 58, 59] (by kernel_rfl) ?_
        exact st_back back0 ((1 + 1, true)) (by first | omega | (simp only []; omega) | (simp; omega)) (by first | (refine b_eq (decide_eq_false ?_).symm; unfold uOk pos8 neg8 cnt1 LIM; omega) | (refine b_eq (decide_eq_decide.2 ?_); rw [qt]; unfold uOk pos8 neg8 cnt1 LIM; omega) | omega | (simp only []; omega) | (simp; omega) | assumption | simp_all) (fun p hp => by first | exact hp | simp_all) (by kernel_rfl) (by kernel_rfl) (by kernel_rfl)
    · refine st_b 21 (decide_eq_false k21) (by kernel_rfl) ?_
      refine st_b 29 (show (decide (b < 0)) = false by exact decide_eq_false (by omega)) (by kernel_rfl) ?_
      refine st_b 38 (show (decide (b > 4294967295)) = false by exact decide_eq_false (by omega)) (by kernel_rfl) ?_
      refine st_b 44 (show (decide (b < -4294967295)) = false by exact decide_eq_false (by omega)) (by kernel_rfl) ?_
      refine st_i 14 .i64 (x' := 1 + 1) (Go.IntWalk.i64_in _ (by omega)) (by kernel_rfl) ?_
      refine st_forget [0, 1, 2, 3, 4, 5, 6, 7, 8, 47, 48, 49, 50, 51, 52, 53, 54, 55, 56, 57, 58, 59] (by kernel_rfl) ?_
      exact st_back back0 ((1 + 1, false)) (by first | omega | (simp only []; omega) | (simp; omega)) (by first | (refine b_eq (decide_eq_false ?_).symm; unfold uOk pos8 neg8 cnt1 LIM; omega) | (refine b_eq (decide_eq_decide.2 ?_); rw [qt]; unfold uOk pos8 neg8 cnt1 LIM; omega) | omega | (simp only []; omega) | (simp; omega) | assumption | simp_all) (fun p hp => by first | exact hp | simp_all) (by kernel_rfl) (by kernel_rfl) (by kernel_rfl)
  · have _hh := True.intro
    refine st_b 29 (show (decide (b < 0)) = false by exact decide_eq_false (by omega)) (by kernel_rfl) ?_
    by_cases k38 : b > 4294967295
    · refine st_b 38 (decide_eq_true k38) (by kernel_rfl) ?_
      exact st_retv Try.func67 (show Value.bool (false) = _ by (refine b_eq (decide_eq_false ?_).symm; unfold uOk pos8 neg8 cnt1 LIM; omega)) (by kernel_rfl)
    · refine st_b 38 (decide_eq_false k38) (by kernel_rfl) ?_
      refine st_b 44 (show (decide (b < -4294967295)) = false by exact decide_eq_false (by omega)) (by kernel_rfl) ?_
      refine st_i 14 .i64 (x' := 1 + 1) (Go.IntWalk.i64_in _ (by omega)) (by kernel_rfl) ?_
      refine st_forget [0, 1, 2, 3, 4, 5, 6, 7, 8, 47, 48, 49, 50, 51, 52, 53, 54, 55, 56, 57, 58, 59] (by kernel_rfl) ?_
      exact st_back back0 ((1 + 1, true)) (by first | omega | (simp only []; omega) | (simp; omega)) (by first | (refine b_eq (decide_eq_false ?_).symm; unfold uOk pos8 neg8 cnt1 LIM; omega) | (refine b_eq (decide_eq_decide.2 ?_); rw [qt]; unfold uOk pos8 neg8 cnt1 LIM; omega) | omega | (simp only []; omega) | (simp; omega) | assumption | simp_all) (fun p hp => by first | exact hp | simp_all) (by kernel_rfl) (by kernel_rfl) (by kernel_rfl)
  · have _hh := True.intro
    by_cases k21 : c > 0
    · refine st_b 21 (decide_eq_true k21) (by kernel_rfl) ?_
      refine st_b 29 (show (decide (c < 0)) = false by exact decide_eq_false (by omega)) (by kernel_rfl) ?_
      by_cases k38 : c > 4294967295
      · refine st_b 38 (decide_eq_true k38) (by kernel_rfl) ?_
        exact st_retv Try.func67 (show Value.bool (false) = _ by (refine b_eq (decide_eq_false ?_).symm; unfold uOk pos8 neg8 cnt1 LIM; omega)) (by kernel_rfl)
      · refine st_b 38 (decide_eq_false k38) (by kernel_rfl) ?_
        refine st_b 44 (show (decide (c < -4294967295)) = false by exact decide_eq_false (by omega)) (by kernel_rfl) ?_
        refine st_i 14 .i64 (x' := 2 + 1) (Go.IntWalk.i64_in _ (by omega)) (by kernel_rfl) ?_
        refine st_forget [0, 1, 2, 3, 4, 5, 6, 7, 8, 47, 48, 49, 50, 51, 52, 53, 54, 55, 56, 57, 58, 59] (by kernel_rfl) ?_
        exact st_back back0 ((2 + 1, true)) (by first | omega | (simp only []; omega) | (simp; omega)) (by first | (refine b_eq (decide_eq_false ?_).symm; unfold uOk pos8 neg8 cnt1 LIM; omega) | (refine b_eq (decide_eq_decide.2 ?_); rw [qt]; unfold uOk pos8 neg8 cnt1 LIM; omega) | omega | (simp only []; omega) | (simp; omega) | assumption | simp_all) (fun p hp => by first | exact hp | simp_all) (by kernel_rfl) (by kernel_rfl) (by kernel_rfl)
    · refine st_b 21 (decide_eq_false k21) (by kernel_rfl) ?_
      refine st_b 29 (show (decide (c < 0)) = false by exact decide_eq_false (by omega)) (by kernel_rfl) ?_
      refine st_b 38 (show (decide (c > 4294967295)) = false by exact decide_eq_false (by omega)) (by kernel_rfl) ?_
      refine st_b 44 (show (decide (c < -4294967295)) = false by exact decide_eq_false (by omega)) (by kernel_rfl) ?_
      refine st_i 14 .i64 (x' := 2 + 1) (Go.IntWalk.i64_in _ (by omega)) (by kernel_rfl) ?_
      refine st_forget [0, 1, 2, 3, 4, 5, 6, 7, 8, 47, 48, 49, 50, 51, 52, 53, 54, 55, 56, 57, 58, 59] (by kernel_rfl) ?_
      exact st_back back0 ((2 + 1, false)) (by first | omega | (simp only []; omega) | (simp; omega)) (by first | (refine b_eq (decide_eq_false ?_).symm; unfold uOk pos8 neg8 cnt1 LIM; omega) | (refine b_eq (decide_eq_decide.2 ?_); rw [qt]; unfold uOk pos8 neg8 cnt1 LIM; omega) | omega | (simp only []; omega) | (simp; omega) | assumption | simp_all) (fun p hp => by first | exact hp | simp_all) (by kernel_rfl) (by kernel_rfl) (by kernel_rfl)
  · have _hh := True.intro
    refine st_b 29 (show (decide (c < 0)) = false by exact decide_eq_false (by omega)) (by kernel_rfl) ?_
    by_cases k38 : c > 4294967295
    · refine st_b 38 (decide_eq_true k38) (by kernel_rfl) ?_
      exact st_retv Try.func67 (show Value.bool (false) = _ by (refine b_eq (decide_eq_false ?_).symm; unfold uOk pos8 neg8 cnt1 LIM; omega)) (by kernel_rfl)
    · refine st_b 38 (decide_eq_false k38) (by kernel_rfl) ?_
      refine st_b 44 (show (decide (c < -4294967295)) = false by exact decide_eq_false (by omega)) (by kernel_rfl) ?_
      refine st_i 14 .i64 (x' := 2 + 1) (Go.IntWalk.i64_in _ (by omega)) (by kernel_rfl) ?_
      refine st_forget [0, 1, 2, 3, 4, 5, 6, 7, 8, 47, 48, 49, 50, 51, 52, 53, 54, 55, 56, 57, 58, 59] (by kernel_rfl) ?_
      exact st_back back0 ((2 + 1, true)) (by first | omega | (simp only []; omega) | (simp; omega)) (by first | (refine b_eq (decide_eq_false ?_).symm; unfold uOk pos8 neg8 cnt1 LIM; omega) | (refine b_eq (decide_eq_decide.2 ?_); rw [qt]; unfold uOk pos8 neg8 cnt1 LIM; omega) | omega | (simp only []; omega) | (simp; omega) | assumption | simp_all) (fun p hp => by first | exact hp | simp_all) (by kernel_rfl) (by kernel_rfl) (by kernel_rfl)
  · have _hh := True.intro
    by_cases k21 : d > 0
    · refine st_b 21 (decide_eq_true k21) (by kernel_rfl) ?_
      refine st_b 29 (show (decide (d < 0)) = false by exact decide_eq_false (by omega)) (by kernel_rfl) ?_
      refine st_i 14 .i64 (x' := 3 + 1) (Go.IntWalk.i64_in _ (by omega)) (by kernel_rfl) ?_
      refine st_forget [0, 1, 2, 3, 4, 5, 6, 7, 8, 47, 48, 49, 50, 51, 52, 53, 54, 55, 56, 57, 58, 59] (by kernel_rfl) ?_
      exact st_back back0 ((3 + 1, true)) (by first | omega | (simp only []; omega) | (simp; omega)) (by first | (refine b_eq (decide_eq_false ?_).symm; unfold uOk pos8 neg8 cnt1 LIM; omega) | (refine b_eq (decide_eq_decide.2 ?_); rw [qt]; unfold uOk pos8 neg8 cnt1 LIM; omega) | omega | (simp only []; omega) | (simp; omega) | assumption | simp_all) (fun p hp => by first | exact hp | simp_all) (by kernel_rfl) (by kernel_rfl) (by kernel_rfl)
    · refine st_b 21 (decide_eq_false k21) (by kernel_rfl) ?_
      refine st_b 29 (show (decide (d < 0)) = false by exact decide_eq_false (by omega)) (by kernel_rfl) ?_
      refine st_i 14 .i64 (x' := 3 + 1) (Go.IntWalk.i64_in _ (by omega)) (by kernel_rfl) ?_
      refine st_forget [0, 1, 2, 3, 4, 5, 6, 7, 8, 47, 48, 49, 50, 51, 52, 53, 54, 55, 56, 57, 58, 59] (by kernel_rfl) ?_
      exact st_back back0 ((3 + 1, false)) (by first | omega | (simp only []; omega) | (simp; omega)) (by first | (refine b_eq (decide_eq_false ?_).symm; unfold uOk pos8 neg8 cnt1 LIM; omega) | (refine b_eq (decide_eq_decide.2 ?_); rw [qt]; unfold uOk pos8 neg8 cnt1 LIM; omega) | omega | (simp only []; omega) | (simp; omega) | assumption | simp_all) (fun p hp => by first | exact hp | simp_all) (by kernel_rfl) (by kernel_rfl) (by kernel_rfl)
  · have _hh := True.intro
    refine st_b 29 (show (decide (d < 0)) = false by exact decide_eq_false (by omega)) (by kernel_rfl) ?_
    refine st_i 14 .i64 (x' := 3 + 1) (Go.IntWalk.i64_in _ (by omega)) (by kernel_rfl) ?_
    refine st_forget [0, 1, 2, 3, 4, 5, 6, 7, 8, 47, 48, 49, 50, 51, 52, 53, 54, 55, 56, 57, 58, 59] (by kernel_rfl) ?_
    exact st_back back0 ((3 + 1, true)) (by first | omega | (simp only []; omega) | (simp; omega)) (by first | (refine b_eq (decide_eq_false ?_).symm; unfold uOk pos8 neg8 cnt1 LIM; omega) | (refine b_eq (decide_eq_decide.2 ?_); rw [qt]; unfold uOk pos8 neg8 cnt1 LIM; omega) | omega | (simp only []; omega) | (simp; omega) | assumption | simp_all) (fun p hp => by first | exact hp | simp_all) (by kernel_rfl) (by kernel_rfl) (by kernel_rfl)
  · have _hh := True.intro
    by_cases k21 : h > 0
    · refine st_b 21 (decide_eq_true k21) (by kernel_rfl) ?_
      refine st_b 29 (show (decide (h < 0)) = false by exact decide_eq_false (by omega)) (by kernel_rfl) ?_
      refine st_i 14 .i64 (x' := 4 + 1) (Go.IntWalk.i64_in _ (by omega)) (by kernel_rfl) ?_
      refine st_forget [0, 1, 2, 3, 4, 5, 6, 7, 8, 47, 48, 49, 50, 51, 52, 53, 54, 55, 56, 57, 58, 59] (by kernel_rfl) ?_
      exact st_back back0 ((4 + 1, true)) (by first | omega | (simp only []; omega) | (simp; omega)) (by first | (refine b_eq (decide_eq_false ?_).symm; unfold uOk pos8 neg8 cnt1 LIM; omega) | (refine b_eq (decide_eq_decide.2 ?_); rw [qt]; unfold uOk pos8 neg8 cnt1 LIM; omega) | omega | (simp only []; omega) | (simp; omega) | assumption | simp_all) (fun p hp => by first | exact hp | simp_all) (by kernel_rfl) (by kernel_rfl) (by kernel_rfl)
    · refine st_b 21 (decide_eq_false k21) (by kernel_rfl) ?_
      refine st_b 29 (show (decide (h < 0)) = false by exact decide_eq_false (by omega)) (by kernel_rfl) ?_
      refine st_i 14 .i64 (x' := 4 + 1) (Go.IntWalk.i64_in _ (by omega)) (by kernel_rfl) ?_
      refine st_forget [0, 1, 2, 3, 4, 5, 6, 7, 8, 47, 48, 49, 50, 51, 52, 53, 54, 55, 56, 57, 58, 59] (by kernel_rfl) ?_
      exact st_back back0 ((4 + 1, false)) (by first | omega | (simp only []; omega) | (simp; omega)) (by first | (refine b_eq (decide_eq_false ?_).symm; unfold uOk pos8 neg8 cnt1 LIM; omega) | (refine b_eq (decide_eq_decide.2 ?_); rw [qt]; unfold uOk pos8 neg8 cnt1 LIM; omega) | omega | (simp only []; omega) | (simp; omega) | assumption | simp_all) (fun p hp => by first | exact hp | simp_all) (by kernel_rfl) (by kernel_rfl) (by kernel_rfl)
  · have _hh := True.intro
    refine st_b 29 (show (decide (h < 0)) = false by exact decide_eq_false (by omega)) (by kernel_rfl) ?_
    refine st_i 14 .i64 (x' := 4 + 1) (Go.IntWalk.i64_in _ (by omega)) (by kernel_rfl) ?_
    refine st_forget [0, 1, 2, 3, 4, 5, 6, 7, 8, 47, 48, 49, 50, 51, 52, 53, 54, 55, 56, 57, 58, 59] (by kernel_rfl) ?_
    exact st_back back0 ((4 + 1, true)) (by first | omega | (simp only []; omega) | (simp; omega)) (by first | (refine b_eq (decide_eq_false ?_).symm; unfold uOk pos8 neg8 cnt1 LIM; omega) | (refine b_eq (decide_eq_decide.2 ?_); rw [qt]; unfold uOk pos8 neg8 cnt1 LIM; omega) | omega | (simp only []; omega) | (simp; omega) | assumption | simp_all) (fun p hp => by first | exact hp | simp_all) (by kernel_rfl) (by kernel_rfl) (by kernel_rfl)
  · have _hh := True.intro
    by_cases k21 : mi > 0
    · refine st_b 21 (decide_eq_true k21) (by kernel_rfl) ?_
      refine st_b 29 (show (decide (mi < 0)) = false by exact decide_eq_false (by omega)) (by kernel_rfl) ?_
      refine st_i 14 .i64 (x' := 5 + 1) (Go.IntWalk.i64_in _ (by omega)) (by kernel_rfl) ?_
      refine st_forget [0, 1, 2, 3, 4, 5, 6, 7, 8, 47, 48, 49, 50, 51, 52, 53, 54, 55, 56, 57, 58, 59] (by kernel_rfl) ?_
      exact st_back back0 ((5 + 1, true)) (by first | omega | (simp only []; omega) | (simp; omega)) (by first | (refine b_eq (decide_eq_false ?_).symm; unfold uOk pos8 neg8 cnt1 LIM; omega) | (refine b_eq (decide_eq_decide.2 ?_); rw [qt]; unfold uOk pos8 neg8 cnt1 LIM; omega) | omega | (simp only []; omega) | (simp; omega) | assumption | simp_all) (fun p hp => by first | exact hp | simp_all) (by kernel_rfl) (by kernel_rfl) (by kernel_rfl)
    · refine st_b 21 (decide_eq_false k21) (by kernel_rfl) ?_
      refine st_b 29 (show (decide (mi < 0)) = false by exact decide_eq_false (by omega)) (by kernel_rfl) ?_
      refine st_i 14 .i64 (x' := 5 + 1) (Go.IntWalk.i64_in _ (by omega)) (by kernel_rfl) ?_
      refine st_forget [0, 1, 2, 3, 4, 5, 6, 7, 8, 47, 48, 49, 50, 51, 52, 53, 54, 55, 56, 57, 58, 59] (by kernel_rfl) ?_
      exact st_back back0 ((5 + 1, false)) (by first | omega | (simp only []; omega) | (simp; omega)) (by first | (refine b_eq (decide_eq_false ?_).symm; unfold uOk pos8 neg8 cnt1 LIM; omega) | (refine b_eq (decide_eq_decide.2 ?_); rw [qt]; unfold uOk pos8 neg8 cnt1 LIM; omega) | omega | (simp only []; omega) | (simp; omega) | assumption | simp_all) (fun p hp => by first | exact hp | simp_all) (by kernel_rfl) (by kernel_rfl) (by kernel_rfl)
  · have _hh := True.intro
    refine st_b 29 (show (decide (mi < 0)) = false by exact decide_eq_false (by omega)) (by kernel_rfl) ?_
    refine st_i 14 .i64 (x' := 5 + 1) (Go.IntWalk.i64_in _ (by omega)) (by kernel_rfl) ?_
    refine st_forget [0, 1, 2, 3, 4, 5, 6, 7, 8, 47, 48, 49, 50, 51, 52, 53, 54, 55, 56, 57, 58, 59] (by kernel_rfl) ?_
    exact st_back back0 ((5 + 1, true)) (by first | omega | (simp only []; omega) | (simp; omega)) (by first | (refine b_eq (decide_eq_false ?_).symm; unfold uOk pos8 neg8 cnt1 LIM; omega) | (refine b_eq (decide_eq_decide.2 ?_); rw [qt]; unfold uOk pos8 neg8 cnt1 LIM; omega) | omega | (simp only []; omega) | (simp; omega) | assumption | simp_all) (fun p hp => by first | exact hp | simp_all) (by kernel_rfl) (by kernel_rfl) (by kernel_rfl)
  · have _hh := True.intro
    by_cases k21 : s > 0
    · refine st_b 21 (decide_eq_true k21) (by kernel_rfl) ?_
      refine st_b 29 (show (decide (s < 0)) = false by exact decide_eq_false (by omega)) (by kernel_rfl) ?_
      refine st_i 14 .i64 (x' := 6 + 1) (Go.IntWalk.i64_in _ (by omega)) (by kernel_rfl) ?_
      refine st_forget [0, 1, 2, 3, 4, 5, 6, 7, 8, 47, 48, 49, 50, 51, 52, 53, 54, 55, 56, 57, 58, 59] (by kernel_rfl) ?_
      exact st_back back0 ((6 + 1, true)) (by first | omega | (simp only []; omega) | (simp; omega)) (by first | (refine b_eq (decide_eq_false ?_).symm; unfold uOk pos8 neg8 cnt1 LIM; omega) | (refine b_eq (decide_eq_decide.2 ?_); rw [qt]; unfold uOk pos8 neg8 cnt1 LIM; omega) | omega | (simp only []; omega) | (simp; omega) | assumption | simp_all) (fun p hp => by first | exact hp | simp_all) (by kernel_rfl) (by kernel_rfl) (by kernel_rfl)
    · refine st_b 21 (decide_eq_false k21) (by kernel_rfl) ?_
      refine st_b 29 (show (decide (s < 0)) = false by exact decide_eq_false (by omega)) (by kernel_rfl) ?_
      refine st_i 14 .i64 (x' := 6 + 1) (Go.IntWalk.i64_in _ (by omega)) (by kernel_rfl) ?_
      refine st_forget [0, 1, 2, 3, 4, 5, 6, 7, 8, 47, 48, 49, 50, 51, 52, 53, 54, 55, 56, 57, 58, 59] (by kernel_rfl) ?_
      exact st_back back0 ((6 + 1, false)) (by first | omega | (simp only []; omega) | (simp; omega)) (by first | (refine b_eq (decide_eq_false ?_).symm; unfold uOk pos8 neg8 cnt1 LIM; omega) | (refine b_eq (decide_eq_decide.2 ?_); rw [qt]; unfold uOk pos8 neg8 cnt1 LIM; omega) | omega | (simp only []; omega) | (simp; omega) | assumption | simp_all) (fun p hp => by first | exact hp | simp_all) (by kernel_rfl) (by kernel_rfl) (by kernel_rfl)
  · have _hh := True.intro
    refine st_b 29 (show (decide (s < 0)) = false by exact decide_eq_false (by omega)) (by kernel_rfl) ?_
    refine st_i 14 .i64 (x' := 6 + 1) (Go.IntWalk.i64_in _ (by omega)) (by kernel_rfl) ?_
    refine st_forget [0, 1, 2, 3, 4, 5, 6, 7, 8, 47, 48, 49, 50, 51, 52, 53, 54, 55, 56, 57, 58, 59] (by kernel_rfl) ?_
    exact st_back back0 ((6 + 1, true)) (by first | omega | (simp only []; omega) | (simp; omega)) (by first | (refine b_eq (decide_eq_false ?_).symm; unfold uOk pos8 neg8 cnt1 LIM; omega) | (refine b_eq (decide_eq_decide.2 ?_); rw [qt]; unfold uOk pos8 neg8 cnt1 LIM; omega) | omega | (simp only []; omega) | (simp; omega) | assumption | simp_all) (fun p hp => by first | exact hp | simp_all) (by kernel_rfl) (by kernel_rfl) (by kernel_rfl)
  · have _hh := True.intro
    by_cases k21 : n > 0
    · refine st_b 21 (decide_eq_true k21) (by kernel_rfl) ?_
      refine st_b 29 (show (decide (n < 0)) = false by exact decide_eq_false (by omega)) (by kernel_rfl) ?_
      refine st_i 14 .i64 (x' := 7 + 1) (Go.IntWalk.i64_in _ (by omega)) (by kernel_rfl) ?_
      refine st_forget [0, 1, 2, 3, 4, 5, 6, 7, 8, 47, 48, 49, 50, 51, 52, 53, 54, 55, 56, 57, 58, 59] (by kernel_rfl) ?_
      exact st_back back0 ((7 + 1, true)) (by first | omega | (simp only []; omega) | (simp; omega)) (by first | (refine b_eq (decide_eq_false ?_).symm; unfold uOk pos8 neg8 cnt1 LIM; omega) | (refine b_eq (decide_eq_decide.2 ?_); rw [qt]; unfold uOk pos8 neg8 cnt1 LIM; omega) | omega | (simp only []; omega) | (simp; omega) | assumption | simp_all) (fun p hp => by first | exact hp | simp_all) (by kernel_rfl) (by kernel_rfl) (by kernel_rfl)
    · refine st_b 21 (decide_eq_false k21) (by kernel_rfl) ?_
      refine st_b 29 (show (decide (n < 0)) = false by exact decide_eq_false (by omega)) (by kernel_rfl) ?_
      refine st_i 14 .i64 (x' := 7 + 1) (Go.IntWalk.i64_in _ (by omega)) (by kernel_rfl) ?_
      refine st_forget [0, 1, 2, 3, 4, 5, 6, 7, 8, 47, 48, 49, 50, 51, 52, 53, 54, 55, 56, 57, 58, 59] (by kernel_rfl) ?_
      exact st_back back0 ((7 + 1, false)) (by first | omega | (simp only []; omega) | (simp; omega)) (by first | (refine b_eq (decide_eq_false ?_).symm; unfold uOk pos8 neg8 cnt1 LIM; omega) | (refine b_eq (decide_eq_decide.2 ?_); rw [qt]; unfold uOk pos8 neg8 cnt1 LIM; omega) | omega | (simp only []; omega) | (simp; omega) | assumption | simp_all) (fun p hp => by first | exact hp | simp_all) (by kernel_rfl) (by kernel_rfl) (by kernel_rfl)
  · have _hh := True.intro
    refine st_b 29 (show (decide (n < 0)) = false by exact decide_eq_false (by omega)) (by kernel_rfl) ?_
    refine st_i 14 .i64 (x' := 7 + 1) (Go.IntWalk.i64_in _ (by omega)) (by kernel_rfl) ?_
    refine st_forget [0, 1, 2, 3, 4, 5, 6, 7, 8, 47, 48, 49, 50, 51, 52, 53, 54, 55, 56, 57, 58, 59] (by kernel_rfl) ?_
    exact st_back back0 ((7 + 1, true)) (by first | omega | (simp only []; omega) | (simp; omega)) (by first | (refine b_eq (decide_eq_false ?_).symm; unfold uOk pos8 neg8 cnt1 LIM; omega) | (refine b_eq (decide_eq_decide.2 ?_); rw [qt]; unfold uOk pos8 neg8 cnt1 LIM; omega) | omega | (simp only []; omega) | (simp; omega) | assumption | simp_all) (fun p hp => by first | exact hp | simp_all) (by kernel_rfl) (by kernel_rfl) (by kernel_rfl)
  · have _hh := True.intro
    refine st_g ent59 (ut) sub0 (by kernel_rfl) (fun zq2 => ?_)
    refine st_g ent136 (fa (zq2)) (subC 0 rfl sub0) (by kernel_rfl) (fun zq3 => ?_)
    refine st_g ent142 (zulimit) sub0 (by kernel_rfl) (fun zq4 => ?_)
    refine st_fn ent45 (fzcmp (zq3) (zq4) (X) (9007199254740992000000000) (by exact Bits.fit bX (by decide)) (by exact Bits.fit bl.bits (by decide))) (subC 1 rfl (subC 0 rfl sub0)) (by kernel_rfl) ?_
    exact st_retv Try.func67 (show Value.bool (decide (cmpI X 9007199254740992000000000 < 0)) = _ by (refine b_eq (decide_eq_decide.2 ?_); rw [qt]; unfold uOk pos8 neg8 cnt1 LIM; omega)) (by kernel_rfl)
  · have _hh := True.intro
    refine st_g ent59 (ut) sub0 (by kernel_rfl) (fun zq2 => ?_)
    refine st_g ent136 (fa (zq2)) (subC 0 rfl sub0) (by kernel_rfl) (fun zq3 => ?_)
    refine st_g ent142 (zulimit) sub0 (by kernel_rfl) (fun zq4 => ?_)
    refine st_fn ent45 (fzcmp (zq3) (zq4) (X) (9007199254740992000000000) (by exact Bits.fit bX (by decide)) (by exact Bits.fit bl.bits (by decide))) (subC 1 rfl (subC 0 rfl sub0)) (by kernel_rfl) ?_
    exact st_retv Try.func67 (show Value.bool (decide (cmpI X 9007199254740992000000000 < 0)) = _ by (refine b_eq (decide_eq_decide.2 ?_); rw [qt]; unfold uOk pos8 neg8 cnt1 LIM; omega)) (by kernel_rfl)
end
end Go.Proofs.Ytcndfpfjckkinaa
end
section
/-
  Durations: what may be, as the reference reckons it: no field above 0.
-/
set_option linter.unusedVariables false
set_option maxRecDepth 100000
namespace Go.Proofs.Ytcndfpfjckkinaa
open Go Go.RowKit Go.Ev

section
variable (a b c d h mi s n : Int)
theorem zuright_n (i : all64 a b c d h mi s n) (hk : neg8 a b c d h mi s n) : Fn 67 [] [duv a b c d h mi s n] (.bool (decide (uOk a b c d h mi s n))) := by
  obtain ⟨i1, i2, i3, i4, i5, i6, i7, i8⟩ := i
  have bt : W128 (dtot d h mi s n) := by unfold I64 at *; unfold W128 dtot; omega
  have bl : W128 9007199254740992000000000 := by unfold W128; omega
  have ut := zutot a b c d h mi s n i4 i5 i6 i7 i8
  obtain ⟨X, hX⟩ : ∃ X : Int, X = ((dtot d h mi s n).natAbs : Int) := ⟨_, rfl⟩
  have bX : Bits 128 X := by rw [hX]; exact bt.bits.abs
  have fa : ∀ p : ZQ, FnZ 136 [(p, dtot d h mi s n)] [zv p] zv X := fun p => by rw [hX]; exact fzabs p _ (bt.bits.fit (by decide))
  have qt := cmpI_lt0 (a := X) (b := 9007199254740992000000000)
  unfold neg8 at hk
  obtain ⟨k1, k2, k3, k4, k5, k6, k7, k8⟩ := hk
  refine fn_of Try.func67 rfl fun ww => ?_
  refine st_rowB ent97 (zufields (a) (b) (c) (d) (h) (mi) (s) (n)) (by kernel_rfl) ?_
  refine st_forget [0, 1, 3, 4, 5, 6, 7, 8, 47, 48, 49, 50, 51, 52, 53, 54, 55, 56, 57, 58, 59] (by kernel_rfl) ?_
  refine st_loop (X := Int × Bool) (fun x => ([SV.val (Value.agg #[Value.int IntKind.i64 a, Value.int IntKind.i64 b, Value.int IntKind.i64 c, Value.int IntKind.i64 d, Value.int IntKind.i64 h, Value.int IntKind.i64 mi, Value.int IntKind.i64 s, Value.int IntKind.i64 n]), SV.ptr 0 0, .any, SV.sl 1 0 8 8, .val (.bool false), .val (.bool x.2), .val (.int .i64 x.1), SV.val (Value.agg #[Value.int IntKind.i64 a, Value.int IntKind.i64 b, Value.int IntKind.i64 c, Value.int IntKind.i64 d, Value.int IntKind.i64 h, Value.int IntKind.i64 mi, Value.int IntKind.i64 s, Value.int IntKind.i64 n]), SV.sl 1 0 8 8, .any, .any, .any, .any, .any, .any, .any, .any, .any, .any, .any, .any, .any, .any, .any, .any, .any, .any, .any, .any, .any, .any, .any, .any, .any, .any, .any, .any, .any, .any, .any, .any, .any, .any, .any, .any, .any, .any, SV.val (Value.tuple #[]), SV.val (Value.tuple #[]), SV.val (Value.tuple #[]), SV.val (Value.tuple #[]), SV.val (Value.tuple #[]), SV.val (Value.tuple #[]), SV.val (Value.tuple #[]), SV.val (Value.tuple #[]), SV.val (Value.tuple #[]), SV.val (Value.tuple #[]), SV.val (Value.tuple #[]), SV.val (Value.tuple #[]), SV.val (Value.tuple #[])], [⟨[SV.val (Value.int IntKind.i64 a), SV.val (Value.int IntKind.i64 b), SV.val (Value.int IntKind.i64 c), SV.val (Value.int IntKind.i64 d), SV.val (Value.int IntKind.i64 h), SV.val (Value.int IntKind.i64 mi), SV.val (Value.int IntKind.i64 s), SV.val (Value.int IntKind.i64 n)], 70⟩, ⟨[SV.val (Value.int IntKind.i64 a), SV.val (Value.int IntKind.i64 b), SV.val (Value.int IntKind.i64 c), SV.val (Value.int IntKind.i64 d), SV.val (Value.int IntKind.i64 h), SV.val (Value.int IntKind.i64 mi), SV.val (Value.int IntKind.i64 s), SV.val (Value.int IntKind.i64 n)], 2⟩])) (fun _ => _) (fun k => 0 ≤ k.1 ∧ k.1 ≤ 8 ∧ (0 < k.1 → -4294967295 ≤ a ∧ a ≤ 4294967295) ∧ (1 < k.1 → -4294967295 ≤ b ∧ b ≤ 4294967295) ∧ (2 < k.1 → -4294967295 ≤ c ∧ c ≤ 4294967295)) (fun k => (8 - k.1).toNat) ((0, false)) (by kernel_rfl) (by kernel_rfl) Sub.refl (by first | omega | (simp; omega) | assumption | simp_all) (fun x px0 back0 => ?_)
  rcases x with ⟨y0_0, y0_1⟩
  simp only at px0
  (have hk0 : y0_0 = 0 ∨ y0_0 = 1 ∨ y0_0 = 2 ∨ y0_0 = 3 ∨ y0_0 = 4 ∨ y0_0 = 5 ∨ y0_0 = 6 ∨ y0_0 = 7 ∨ y0_0 = 8 := (by omega); rcases hk0 with rfl | rfl | rfl | rfl | rfl | rfl | rfl | rfl | rfl <;> rcases y0_1 with _ | _)
  · have _hh := True.intro
    refine st_b 21 (show (decide (a > 0)) = false by exact decide_eq_false (by omega)) (by kernel_rfl) ?_
    by_cases k29 : a < 0
    · refine st_b 29 (decide_eq_true k29) (by kernel_rfl) ?_
      refine st_b 38 (show (decide (a > 4294967295)) = false by exact decide_eq_false (by omega)) (by kernel_rfl) ?_
      by_cases k44 : a < -4294967295
      · refine st_b 44 (decide_eq_true k44) (by kernel_rfl) ?_
        exact st_retv Try.func67 (show Value.bool (false) = _ by (refine b_eq (decide_eq_false ?_).symm; unfold uOk pos8 neg8 cnt1 LIM; omega)) (by kernel_rfl)
      · refine st_b 44 (decide_eq_false k44) (by kernel_rfl) ?_
        refine st_i 14 .i64 (x' := 0 + 1) (Go.IntWalk.i64_in _ (by omega)) (by kernel_rfl) ?_
        refine st_forget [0, 1, 2, 3, 4, 5, 6, 7, 8, 47, 48, 49, 50, 51, 52, 53, 54, 55, 56, 57, 58, 59] (by kernel_rfl) ?_
        exact st_back back0 ((0 + 1, true)) (by first | omega | (simp only []; omega) | (simp; omega)) (by first | (refine b_eq (decide_eq_false ?_).symm; unfold uOk pos8 neg8 cnt1 LIM; omega) | (refine b_eq (decide_eq_decide.2 ?_); rw [qt]; unfold uOk pos8 neg8 cnt1 LIM; omega) | omega | (simp only []; omega) | (simp; omega) | assumption | simp_all) (fun p hp => by first | exact hp | simp_all) (by kernel_rfl) (by kernel_rfl) (by kernel_rfl)
    · refine st_b 29 (decide_eq_false k29) (by kernel_rfl) ?_
      refine st_b 38 (show (decide (a > 4294967295)) = false by exact decide_eq_false (by omega)) (by kernel_rfl) ?_
      refine st_b 44 (show (decide (a < -4294967295)) = false by exact decide_eq_false (by omega)) (by kernel_rfl) ?_
      refine st_i 14 .i64 (x' := 0 + 1) (Go.IntWalk.i64_in _ (by omega)) (by kernel_rfl) ?_
      refine st_forget [0, 1, 2, 3, 4, 5, 6, 7, 8, 47, 48, 49, 50, 51, 52, 53, 54, 55, 56, 57, 58, 59] (by kernel_rfl) ?_
      exact st_back back0 ((0 + 1, false)) (by first | omega | (simp only []; omega) | (simp; omega)) (by first | (refine b_eq (decide_eq_false ?_).symm; unfold uOk pos8 neg8 cnt1 LIM; omega) | (refine b_eq (decide_eq_decide.2 ?_); rw [qt]; unfold uOk pos8 neg8 cnt1 LIM; omega) | omega | (simp only []; omega) | (simp; omega) | assumption | simp_all) (fun p hp => by first | exact hp | simp_all) (by kernel_rfl) (by kernel_rfl) (by kernel_rfl)
  · have _hh := True.intro
    refine st_b 21 (show (decide (a > 0)) = false by exact decide_eq_false (by omega)) (by kernel_rfl) ?_
    refine st_b 38 (show (decide (a > 4294967295)) = false by exact decide_eq_false (by omega)) (by kernel_rfl) ?_
    by_cases k44 : a < -4294967295
    · refine st_b 44 (decide_eq_true k44) (by kernel_rfl) ?_
      exact st_retv Try.func67 (show Value.bool (false) = _ by (refine b_eq (decide_eq_false ?_).symm; unfold uOk pos8 neg8 cnt1 LIM; omega)) (by kernel_rfl)
    · refine st_b 44 (decide_eq_false k44) (by kernel_rfl) ?_
      refine st_i 14 .i64 (x' := 0 + 1) (Go.IntWalk.i64_in _ (by omega)) (by kernel_rfl) ?_
      refine st_forget [0, 1, 2, 3, 4, 5, 6, 7, 8, 47, 48, 49, 50, 51, 52, 53, 54, 55, 56, 57, 58, 59] (by kernel_rfl) ?_
      exact st_back back0 ((0 + 1, true)) (by first | omega | (simp only []; omega) | (simp; omega)) (by first | (refine b_eq (decide_eq_false ?_).symm; unfold uOk pos8 neg8 cnt1 LIM; omega) | (refine b_eq (decide_eq_decide.2 ?_); rw [qt]; unfold uOk pos8 neg8 cnt1 LIM; omega) | omega | (simp only []; omega) | (simp; omega) | assumption | simp_all) (fun p hp => by first | exact hp | simp_all) (by kernel_rfl) (by kernel_rfl) (by kernel_rfl)
  · have _hh := True.intro
    refine st_b 21 (show (decide (b > 0)) = false by exact decide_eq_false (by omega)) (by kernel_rfl) ?_
    by_cases k29 : b < 0
    · refine st_b 29 (decide_eq_true k29) (by kernel_rfl) ?_
      refine st_b 38 (show (decide (b > 4294967295)) = false by exact decide_eq_false (by omega)) (by kernel_rfl) ?_
      by_cases k44 : b < -4294967295
      · refine st_b 44 (decide_eq_true k44) (by kernel_rfl) ?_
        exact st_retv Try.func67 (show Value.bool (false) = _ by (refine b_eq (decide_eq_false ?_).symm; unfold uOk pos8 neg8 cnt1 LIM; omega)) (by kernel_rfl)
      · refine st_b 44 (decide_eq_false k44) (by kernel_rfl) ?_
        refine st_i 14 .i64 (x' := 1 + 1) (Go.IntWalk.i64_in _ (by omega)) (by kernel_rfl) ?_
        refine st_forget [0, 1, 2, 3, 4, 5, 6, 7, 8, 47, 48, 49, 50, 51, 52, 53, 54, 55, 56, 57, 58, 59] (by kernel_rfl) ?_
        exact st_back back0 ((1 + 1, true)) (by first | omega | (simp only []; omega) | (simp; omega)) (by first | (refine b_eq (decide_eq_false ?_).symm; unfold uOk pos8 neg8 cnt1 LIM; omega) | (refine b_eq (decide_eq_decide.2 ?_); rw [qt]; unfold uOk pos8 neg8 cnt1 LIM; omega) | omega | (simp only []; omega) | (simp; omega) | assumption | simp_all) (fun p hp => by first | exact hp | simp_all) (by kernel_rfl) (by kernel_rfl) (by kernel_rfl)
    · refine st_b 29 (decide_eq_false k29) (by kernel_rfl) ?_
      refine st_b 38 (show (decide (b > 4294967295)) = false by exact decide_eq_false (by omega)) (by kernel_rfl) ?_
      refine st_b 44 (show (decide (b < -4294967295)) = false by exact decide_eq_false (by omega)) (by kernel_rfl) ?_
      refine st_i 14 .i64 (x' := 1 + 1) (Go.IntWalk.i64_in _ (by omega)) (by kernel_rfl) ?_
      refine st_forget [0, 1, 2, 3, 4, 5, 6, 7, 8, 47, 48, 49, 50, 51, 52, 53, 54, 55, 56, 57, 58, 59] (by kernel_rfl) ?_
      exact st_back back0 ((1 + 1, false)) (by first | omega | (simp only []; omega) | (simp; omega)) (by first | (refine b_eq (decide_eq_false ?_).symm; unfold uOk pos8 neg8 cnt1 LIM; omega) | (refine b_eq (decide_eq_decide.2 ?_); rw [qt]; unfold uOk pos8 neg8 cnt1 LIM; omega) | omega | (simp only []; omega) | (simp; omega) | assumption | simp_all) (fun p hp => by first | exact hp | simp_all) (by kernel_rfl) (by kernel_rfl) (by kernel_rfl)
  · have _hh := True.intro
    refine st_b 21 (show (decide (b > 0)) = false by exact decide_eq_false (by omega)) (by kernel_rfl) ?_
    refine st_b 38 (show (decide (b > 4294967295)) = false by exact decide_eq_false (by omega)) (by kernel_rfl) ?_
    by_cases k44 : b < -4294967295
    · refine st_b 44 (decide_eq_true k44) (by kernel_rfl) ?_
      exact st_retv Try.func67 (show Value.bool (false) = _ by (refine b_eq (decide_eq_false ?_).symm; unfold uOk pos8 neg8 cnt1 LIM; omega)) (by kernel_rfl)
    · refine st_b 44 (decide_eq_false k44) (by kernel_rfl) ?_
      refine st_i 14 .i64 (x' := 1 + 1) (Go.IntWalk.i64_in _ (by omega)) (by kernel_rfl) ?_
      refine st_forget [0, 1, 2, 3, 4, 5, 6, 7, 8, 47, 48, 49, 50, 51, 52, 53, 54, 55, 56, 57, 58, 59] (by kernel_rfl) ?_
      exact st_back back0 ((1 + 1, true)) (by first | omega | (simp only []; omega) | (simp; omega)) (by first | (refine b_eq (decide_eq_false ?_).symm; unfold uOk pos8 neg8 cnt1 LIM; omega) | (refine b_eq (decide_eq_decide.2 ?_); rw [qt]; unfold uOk pos8 neg8 cnt1 LIM; omega) | omega | (simp only []; omega) | (simp; omega) | assumption | simp_all) (fun p hp => by first | exact hp | simp_all) (by kernel_rfl) (by kernel_rfl) (by kernel_rfl)
  · have _hh := True.intro
    refine st_b 21 (show (decide (c > 0)) = false by exact decide_eq_false (by omega)) (by kernel_rfl) ?_
    by_cases k29 : c < 0
    · refine st_b 29 (decide_eq_true k29) (by kernel_rfl) ?_
      refine st_b 38 (show (decide (c > 4294967295)) = false by exact decide_eq_false (by omega)) (by kernel_rfl) ?_
      by_cases k44 : c < -4294967295
      · refine st_b 44 (decide_eq_true k44) (by kernel_rfl) ?_
        exact st_retv Try.func67 (show Value.bool (false) = _ by (refine b_eq (decide_eq_false ?_).symm; unfold uOk pos8 neg8 cnt1 LIM; omega)) (by kernel_rfl)
      · refine st_b 44 (decide_eq_false k44) (by kernel_rfl) ?_
        refine st_i 14 .i64 (x' := 2 + 1) (Go.IntWalk.i64_in _ (by omega)) (by kernel_rfl) ?_
        refine st_forget [0, 1, 2, 3, 4, 5, 6, 7, 8, 47, 48, 49, 50, 51, 52, 53, 54, 55, 56, 57, 58, 59] (by kernel_rfl) ?_
        exact st_back back0 ((2 + 1, true)) (by first | omega | (simp only []; omega) | (simp; omega)) (by first | (refine b_eq (decide_eq_false ?_).symm; unfold uOk pos8 neg8 cnt1 LIM; omega) | (refine b_eq (decide_eq_decide.2 ?_); rw [qt]; unfold uOk pos8 neg8 cnt1 LIM; omega) | omega | (simp only []; omega) | (simp; omega) | assumption | simp_all) (fun p hp => by first | exact hp | simp_all) (by kernel_rfl) (by kernel_rfl) (by kernel_rfl)
    · refine st_b 29 (decide_eq_false k29) (by kernel_rfl) ?_
      refine st_b 38 (show (decide (c > 4294967295)) = false by exact decide_eq_false (by omega)) (by kernel_rfl) ?_
      refine st_b 44 (show (decide (c < -4294967295)) = false by exact decide_eq_false (by omega)) (by kernel_rfl) ?_
      refine st_i 14 .i64 (x' := 2 + 1) (Go.IntWalk.i64_in _ (by omega)) (by kernel_rfl) ?_
      refine st_forget [0, 1, 2, 3, 4, 5, 6, 7, 8, 47, 48, 49, 50, 51, 52, 53, 54, 55, 56, 57, 58, 59] (by kernel_rfl) ?_
      exact st_back back0 ((2 + 1, false)) (by first | omega | (simp only []; omega) | (simp; omega)) (by first | (refine b_eq (decide_eq_false ?_).symm; unfold uOk pos8 neg8 cnt1 LIM; omega) | (refine b_eq (decide_eq_decide.2 ?_); rw [qt]; unfold uOk pos8 neg8 cnt1 LIM; omega) | omega | (simp only []; omega) | (simp; omega) | assumption | simp_all) (fun p hp => by first | exact hp | simp_all) (by kernel_rfl) (by kernel_rfl) (by kernel_rfl)
  · have _hh := True.intro
    refine st_b 21 (show (decide (c > 0)) = false by exact decide_eq_false (by omega)) (by kernel_rfl) ?_
    refine st_b 38 (show (decide (c > 4294967295)) = false by exact decide_eq_false (by omega)) (by kernel_rfl) ?_
    by_cases k44 : c < -4294967295
    · refine st_b 44 (decide_eq_true k44) (by kernel_rfl) ?_
      exact st_retv Try.func67 (show Value.bool (false) = _ by (refine b_eq (decide_eq_false ?_).symm; unfold uOk pos8 neg8 cnt1 LIM; omega)) (by kernel_rfl)
    · refine st_b 44 (decide_eq_false k44) (by kernel_rfl) ?_
      refine st_i 14 .i64 (x' := 2 + 1) (Go.IntWalk.i64_in _ (by omega)) (by kernel_rfl) ?_
      refine st_forget [0, 1, 2, 3, 4, 5, 6, 7, 8, 47, 48, 49, 50, 51, 52, 53, 54, 55, 56, 57, 58, 59] (by kernel_rfl) ?_
      exact st_back back0 ((2 + 1, true)) (by first | omega | (simp only []; omega) | (simp; omega)) (by first | (refine b_eq (decide_eq_false ?_).symm; unfold uOk pos8 neg8 cnt1 LIM; omega) | (refine b_eq (decide_eq_decide.2 ?_); rw [qt]; unfold uOk pos8 neg8 cnt1 LIM; omega) | omega | (simp only []; omega) | (simp; omega) | assumption | simp_all) (fun p hp => by first | exact hp | simp_all) (by kernel_rfl) (by kernel_rfl) (by kernel_rfl)
  · have _hh := True.intro
    refine st_b 21 (show (decide (d > 0)) = false by exact decide_eq_false (by omega)) (by kernel_rfl) ?_
    by_cases k29 : d < 0
    · refine st_b 29 (decide_eq_true k29) (by kernel_rfl) ?_
      refine st_i 14 .i64 (x' := 3 + 1) (Go.IntWalk.i64_in _ (by omega)) (by kernel_rfl) ?_
      refine st_forget [0, 1, 2, 3, 4, 5, 6, 7, 8, 47, 48, 49, 50, 51, 52, 53, 54, 55, 56, 57, 58, 59] (by kernel_rfl) ?_
      exact st_back back0 ((3 + 1, true)) (by first | omega | (simp only []; omega) | (simp; omega)) (by first | (refine b_eq (decide_eq_false ?_).symm; unfold uOk pos8 neg8 cnt1 LIM; omega) | (refine b_eq (decide_eq_decide.2 ?_); rw [qt]; unfold uOk pos8 neg8 cnt1 LIM; omega) | omega | (simp only []; omega) | (simp; omega) | assumption | simp_all) (fun p hp => by first | exact hp | simp_all) (by kernel_rfl) (by kernel_rfl) (by kernel_rfl)
    · refine st_b 29 (decide_eq_false k29) (by kernel_rfl) ?_
      refine st_i 14 .i64 (x' := 3 + 1) (Go.IntWalk.i64_in _ (by omega)) (by kernel_rfl) ?_
      refine st_forget [0, 1, 2, 3, 4, 5, 6, 7, 8, 47, 48, 49, 50, 51, 52, 53, 54, 55, 56, 57, 58, 59] (by kernel_rfl) ?_
      exact st_back back0 ((3 + 1, false)) (by first | omega | (simp only []; omega) | (simp; omega)) (by first | (refine b_eq (decide_eq_false ?_).symm; unfold uOk pos8 neg8 cnt1 LIM; omega) | (refine b_eq (decide_eq_decide.2 ?_); rw [qt]; unfold uOk pos8 neg8 cnt1 LIM; omega) | omega | (simp only []; omega) | (simp; omega) | assumption | simp_all) (fun p hp => by first | exact hp | simp_all) (by kernel_rfl) (by kernel_rfl) (by kernel_rfl)
  · have _hh := True.intro
    refine st_b 21 (show (decide (d > 0)) = false by exact decide_eq_false (by omega)) (by kernel_rfl) ?_
    refine st_i 14 .i64 (x' := 3 + 1) (Go.IntWalk.i64_in _ (by omega)) (by kernel_rfl) ?_
    refine st_forget [0, 1, 2, 3, 4, 5, 6, 7, 8, 47, 48, 49, 50, 51, 52, 53, 54, 55, 56, 57, 58, 59] (by kernel_rfl) ?_
    exact st_back back0 ((3 + 1, true)) (by first | omega | (simp only []; omega) | (simp; omega)) (by first | (refine b_eq (decide_eq_false ?_).symm; unfold uOk pos8 neg8 cnt1 LIM; omega) | (refine b_eq (decide_eq_decide.2 ?_); rw [qt]; unfold uOk pos8 neg8 cnt1 LIM; omega) | omega | (simp only []; omega) | (simp; omega) | assumption | simp_all) (fun p hp => by first | exact hp | simp_all) (by kernel_rfl) (by kernel_rfl) (by kernel_rfl)
  · have _hh := True.intro
    refine st_b 21 (show (decide (h > 0)) = false by exact decide_eq_false (by omega)) (by kernel_rfl) ?_
    by_cases k29 : h < 0
    · refine st_b 29 (decide_eq_true k29) (by kernel_rfl) ?_
      refine st_i 14 .i64 (x' := 4 + 1) (Go.IntWalk.i64_in _ (by omega)) (by kernel_rfl) ?_
      refine st_forget [0, 1, 2, 3, 4, 5, 6, 7, 8, 47, 48, 49, 50, 51, 52, 53, 54, 55, 56, 57, 58, 59] (by kernel_rfl) ?_
      exact st_back back0 ((4 + 1, true)) (by first | omega | (simp only []; omega) | (simp; omega)) (by first | (refine b_eq (decide_eq_false ?_).symm; unfold uOk pos8 neg8 cnt1 LIM; omega) | (refine b_eq (decide_eq_decide.2 ?_); rw [qt]; unfold uOk pos8 neg8 cnt1 LIM; omega) | omega | (simp only []; omega) | (simp; omega) | assumption | simp_all) (fun p hp => by first | exact hp | simp_all) (by kernel_rfl) (by kernel_rfl) (by kernel_rfl)
    · refine st_b 29 (decide_eq_false k29) (by kernel_rfl) ?_
      refine st_i 14 .i64 (x' := 4 + 1) (Go.IntWalk.i64_in _ (by omega)) (by kernel_rfl) ?_
      refine st_forget [0, 1, 2, 3, 4, 5, 6, 7, 8, 47, 48, 49, 50, 51, 52, 53, 54, 55, 56, 57, 58, 59] (by kernel_rfl) ?_
      exact st_back back0 ((4 + 1, false)) (by first | omega | (simp only []; omega) | (simp; omega)) (by first | (refine b_eq (decide_eq_false ?_).symm; unfold uOk pos8 neg8 cnt1 LIM; omega) | (refine b_eq (decide_eq_decide.2 ?_); rw [qt]; unfold uOk pos8 neg8 cnt1 LIM; omega) | omega | (simp only []; omega) | (simp; omega) | assumption | simp_all) (fun p hp => by first | exact hp | simp_all) (by kernel_rfl) (by kernel_rfl) (by kernel_rfl)
  · have _hh := True.intro
    refine st_b 21 (show (decide (h > 0)) = false by exact decide_eq_false (by omega)) (by kernel_rfl) ?_
    refine st_i 14 .i64 (x' := 4 + 1) (Go.IntWalk.i64_in _ (by omega)) (by kernel_rfl) ?_
    refine st_forget [0, 1, 2, 3, 4, 5, 6, 7, 8, 47, 48, 49, 50, 51, 52, 53, 54, 55, 56, 57, 58, 59] (by kernel_rfl) ?_
    exact st_back back0 ((4 + 1, true)) (by first | omega | (simp only []; omega) | (simp; omega)) (by first | (refine b_eq (decide_eq_false ?_).symm; unfold uOk pos8 neg8 cnt1 LIM; omega) | (refine b_eq (decide_eq_decide.2 ?_); rw [qt]; unfold uOk pos8 neg8 cnt1 LIM; omega) | omega | (simp only []; omega) | (simp; omega) | assumption | simp_all) (fun p hp => by first | exact hp | simp_all) (by kernel_rfl) (by kernel_rfl) (by kernel_rfl)
  · have _hh := True.intro
    refine st_b 21 (show (decide (mi > 0)) = false by exact decide_eq_false (by omega)) (by kernel_rfl) ?_
    by_cases k29 : mi < 0
    · refine st_b 29 (decide_eq_true k29) (by kernel_rfl) ?_
      refine st_i 14 .i64 (x' := 5 + 1) (Go.IntWalk.i64_in _ (by omega)) (by kernel_rfl) ?_
      refine st_forget [0, 1, 2, 3, 4, 5, 6, 7, 8, 47, 48, 49, 50, 51, 52, 53, 54, 55, 56, 57, 58, 59] (by kernel_rfl) ?_
      exact st_back back0 ((5 + 1, true)) (by first | omega | (simp only []; omega) | (simp; omega)) (by first | (refine b_eq (decide_eq_false ?_).symm; unfold uOk pos8 neg8 cnt1 LIM; omega) | (refine b_eq (decide_eq_decide.2 ?_); rw [qt]; unfold uOk pos8 neg8 cnt1 LIM; omega) | omega | (simp only []; omega) | (simp; omega) | assumption | simp_all) (fun p hp => by first | exact hp | simp_all) (by kernel_rfl) (by kernel_rfl) (by kernel_rfl)
    · refine st_b 29 (decide_eq_false k29) (by kernel_rfl) ?_
      refine st_i 14 .i64 (x' := 5 + 1) (Go.IntWalk.i64_in _ (by omega)) (by kernel_rfl) ?_
      refine st_forget [0, 1, 2, 3, 4, 5, 6, 7, 8, 47, 48, 49, 50, 51, 52, 53, 54, 55, 56, 57, 58, 59] (by kernel_rfl) ?_
      exact st_back back0 ((5 + 1, false)) (by first | omega | (simp only []; omega) | (simp; omega)) (by first | (refine b_eq (decide_eq_false ?_).symm; unfold uOk pos8 neg8 cnt1 LIM; omega) | (refine b_eq (decide_eq_decide.2 ?_); rw [qt]; unfold uOk pos8 neg8 cnt1 LIM; omega) | omega | (simp only []; omega) | (simp; omega) | assumption | simp_all) (fun p hp => by first | exact hp | simp_all) (by kernel_rfl) (by kernel_rfl) (by kernel_rfl)
  · have _hh := True.intro
    refine st_b 21 (show (decide (mi > 0)) = false by exact decide_eq_false (by omega)) (by kernel_rfl) ?_
    refine st_i 14 .i64 (x' := 5 + 1) (Go.IntWalk.i64_in _ (by omega)) (by kernel_rfl) ?_
    refine st_forget [0, 1, 2, 3, 4, 5, 6, 7, 8, 47, 48, 49, 50, 51, 52, 53, 54, 55, 56, 57, 58, 59] (by kernel_rfl) ?_
    exact st_back back0 ((5 + 1, true)) (by first | omega | (simp only []; omega) | (simp; omega)) (by first | (refine b_eq (decide_eq_false ?_).symm; unfold uOk pos8 neg8 cnt1 LIM; omega) | (refine b_eq (decide_eq_decide.2 ?_); rw [qt]; unfold uOk pos8 neg8 cnt1 LIM; omega) | omega | (simp only []; omega) | (simp; omega) | assumption | simp_all) (fun p hp => by first | exact hp | simp_all) (by kernel_rfl) (by kernel_rfl) (by kernel_rfl)
  · have _hh := True.intro
    refine st_b 21 (show (decide (s > 0)) = false by exact decide_eq_false (by omega)) (by kernel_rfl) ?_
    by_cases k29 : s < 0
    · refine st_b 29 (decide_eq_true k29) (by kernel_rfl) ?_
      refine st_i 14 .i64 (x' := 6 + 1) (Go.IntWalk.i64_in _ (by omega)) (by kernel_rfl) ?_
      refine st_forget [0, 1, 2, 3, 4, 5, 6, 7, 8, 47, 48, 49, 50, 51, 52, 53, 54, 55, 56, 57, 58, 59] (by kernel_rfl) ?_
      exact st_back back0 ((6 + 1, true)) (by first | omega | (simp only []; omega) | (simp; omega)) (by first | (refine b_eq (decide_eq_false ?_).symm; unfold uOk pos8 neg8 cnt1 LIM; omega) | (refine b_eq (decide_eq_decide.2 ?_); rw [qt]; unfold uOk pos8 neg8 cnt1 LIM; omega) | omega | (simp only []; omega) | (simp; omega) | assumption | simp_all) (fun p hp => by first | exact hp | simp_all) (by kernel_rfl) (by kernel_rfl) (by kernel_rfl)
    · refine st_b 29 (decide_eq_false k29) (by kernel_rfl) ?_
      refine st_i 14 .i64 (x' := 6 + 1) (Go.IntWalk.i64_in _ (by omega)) (by kernel_rfl) ?_
      refine st_forget [0, 1, 2, 3, 4, 5, 6, 7, 8, 47, 48, 49, 50, 51, 52, 53, 54, 55, 56, 57, 58, 59] (by kernel_rfl) ?_
      exact st_back back0 ((6 + 1, false)) (by first | omega | (simp only []; omega) | (simp; omega)) (by first | (refine b_eq (decide_eq_false ?_).symm; unfold uOk pos8 neg8 cnt1 LIM; omega) | (refine b_eq (decide_eq_decide.2 ?_); rw [qt]; unfold uOk pos8 neg8 cnt1 LIM; omega) | omega | (simp only []; omega) | (simp; omega) | assumption | simp_all) (fun p hp => by first | exact hp | simp_all) (by kernel_rfl) (by kernel_rfl) (by kernel_rfl)
  · have _hh := True.intro
    refine st_b 21 (show (decide (s > 0)) = false by exact decide_eq_false (by omega)) (by kernel_rfl) ?_
    refine st_i 14 .i64 (x' := 6 + 1) (Go.IntWalk.i64_in _ (by omega)) (by kernel_rfl) ?_
    refine st_forget [0, 1, 2, 3, 4, 5, 6, 7, 8, 47, 48, 49, 50, 51, 52, 53, 54, 55, 56, 57, 58, 59] (by kernel_rfl) ?_
    exact st_back back0 ((6 + 1, true)) (by first | omega | (simp only []; omega) | (simp; omega)) (by first | (refine b_eq (decide_eq_false ?_).symm; unfold uOk pos8 neg8 cnt1 LIM; omega) | (refine b_eq (decide_eq_decide.2 ?_); rw [qt]; unfold uOk pos8 neg8 cnt1 LIM; omega) | omega | (simp only []; omega) | (simp; omega) | assumption | simp_all) (fun p hp => by first | exact hp | simp_all) (by kernel_rfl) (by kernel_rfl) (by kernel_rfl)
  · have _hh := True.intro
    refine st_b 21 (show (decide (n > 0)) = false by exact decide_eq_false (by omega)) (by kernel_rfl) ?_
    by_cases k29 : n < 0
    · refine st_b 29 (decide_eq_true k29) (by kernel_rfl) ?_
      refine st_i 14 .i64 (x' := 7 + 1) (Go.IntWalk.i64_in _ (by omega)) (by kernel_rfl) ?_
      refine st_forget [0, 1, 2, 3, 4, 5, 6, 7, 8, 47, 48, 49, 50, 51, 52, 53, 54, 55, 56, 57, 58, 59] (by kernel_rfl) ?_
      exact st_back back0 ((7 + 1, true)) (by first | omega | (simp only []; omega) | (simp; omega)) (by first | (refine b_eq (decide_eq_false ?_).symm; unfold uOk pos8 neg8 cnt1 LIM; omega) | (refine b_eq (decide_eq_decide.2 ?_); rw [qt]; unfold uOk pos8 neg8 cnt1 LIM; omega) | omega | (simp only []; omega) | (simp; omega) | assumption | simp_all) (fun p hp => by first | exact hp | simp_all) (by kernel_rfl) (by kernel_rfl) (by kernel_rfl)
    · refine st_b 29 (decide_eq_false k29) (by kernel_rfl) ?_
      refine st_i 14 .i64 (x' := 7 + 1) (Go.IntWalk.i64_in _ (by omega)) (by kernel_rfl) ?_
      refine st_forget [0, 1, 2, 3, 4, 5, 6, 7, 8, 47, 48, 49, 50, 51, 52, 53, 54, 55, 56, 57, 58, 59] (by kernel_rfl) ?_
      exact st_back back0 ((7 + 1, false)) (by first | omega | (simp only []; omega) | (simp; omega)) (by first | (refine b_eq (decide_eq_false ?_).symm; unfold uOk pos8 neg8 cnt1 LIM; omega) | (refine b_eq (decide_eq_decide.2 ?_); rw [qt]; unfold uOk pos8 neg8 cnt1 LIM; omega) | omega | (simp only []; omega) | (simp; omega) | assumption | simp_all) (fun p hp => by first | exact hp | simp_all) (by kernel_rfl) (by kernel_rfl) (by kernel_rfl)
  · have _hh := True.intro
    refine st_b 21 (show (decide (n > 0)) = false by exact decide_eq_false (by omega)) (by kernel_rfl) ?_
    refine st_i 14 .i64 (x' := 7 + 1) (Go.IntWalk.i64_in _ (by omega)) (by kernel_rfl) ?_
    refine st_forget [0, 1, 2, 3, 4, 5, 6, 7, 8, 47, 48, 49, 50, 51, 52, 53, 54, 55, 56, 57, 58, 59] (by kernel_rfl) ?_
    exact st_back back0 ((7 + 1, true)) (by first | omega | (simp only []; omega) | (simp; omega)) (by first | (refine b_eq (decide_eq_false ?_).symm; unfold uOk pos8 neg8 cnt1 LIM; omega) | (refine b_eq (decide_eq_decide.2 ?_); rw [qt]; unfold uOk pos8 neg8 cnt1 LIM; omega) | omega | (simp only []; omega) | (simp; omega) | assumption | simp_all) (fun p hp => by first | exact hp | simp_all) (by kernel_rfl) (by kernel_rfl) (by kernel_rfl)
  · have _hh := True.intro
    refine st_g ent59 (ut) sub0 (by kernel_rfl) (fun zq2 => ?_)
    refine st_g ent136 (fa (zq2)) (subC 0 rfl sub0) (by kernel_rfl) (fun zq3 => ?_)
    refine st_g ent142 (zulimit) sub0 (by kernel_rfl) (fun zq4 => ?_)
    refine st_fn ent45 (fzcmp (zq3) (zq4) (X) (9007199254740992000000000) (by exact Bits.fit bX (by decide)) (by exact Bits.fit bl.bits (by decide))) (subC 1 rfl (subC 0 rfl sub0)) (by kernel_rfl) ?_
    exact st_retv Try.func67 (show Value.bool (decide (cmpI X 9007199254740992000000000 < 0)) = _ by (refine b_eq (decide_eq_decide.2 ?_); rw [qt]; unfold uOk pos8 neg8 cnt1 LIM; omega)) (by kernel_rfl)
  · have _hh := True.intro
    refine st_g ent59 (ut) sub0 (by kernel_rfl) (fun zq2 => ?_)
    refine st_g ent136 (fa (zq2)) (subC 0 rfl sub0) (by kernel_rfl) (fun zq3 => ?_)
    refine st_g ent142 (zulimit) sub0 (by kernel_rfl) (fun zq4 => ?_)
    refine st_fn ent45 (fzcmp (zq3) (zq4) (X) (9007199254740992000000000) (by exact Bits.fit bX (by decide)) (by exact Bits.fit bl.bits (by decide))) (subC 1 rfl (subC 0 rfl sub0)) (by kernel_rfl) ?_
    exact st_retv Try.func67 (show Value.bool (decide (cmpI X 9007199254740992000000000 < 0)) = _ by (refine b_eq (decide_eq_decide.2 ?_); rw [qt]; unfold uOk pos8 neg8 cnt1 LIM; omega)) (by kernel_rfl)
end
end Go.Proofs.Ytcndfpfjckkinaa
end
