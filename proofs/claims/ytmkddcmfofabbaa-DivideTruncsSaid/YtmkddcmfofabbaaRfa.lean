/-
  divide.bare.down: the iterator over a number's bits, the highest one first: its contract for a range over a function.
-/
import Derived.Test.YtmkddcmfofabbaaDva
import Derived.RangeFuncNested
import Derived.RangeFuncBound
import Derived.RangeFuncCalls
import Derived.RangeFuncLeaves
import Derived.Shelf.Abstract
import Derived.Shelf.RegionOpen
import Derived.OwnWalkIn
import Derived.TacticsInMore
import Derived.LoopNIn
import Derived.LoopIn
namespace Go.Proofs.Ytmkddcmfofabbaa
open Go Go.RowKit Go.Shelf
attribute [local go_sem] Oper.semAt_some

/-- A bit. -/
abbrev Bit := { x : Int // x = 0 ∨ x = 1 }
def bitAt (b : Int) (i : Nat) : Bit := ⟨shr b i % 2, by omega⟩
/-- The bits that have come when k rounds are over. -/
def bitsOf (b : Int) (k : Nat) : List Bit := (List.range k).map fun j => bitAt b (127 - j)
theorem bitsOf_succ (b : Int) (k : Nat) : bitsOf b (k + 1) = bitsOf b k ++ [bitAt b (127 - k)] := by simp [bitsOf, List.range_succ]

theorem and_one (x : Int) (h0 : 0 ≤ x) (h1 : x < 18446744073709551616) : bits .and .u64 x 1 = x % 2 := by
  obtain ⟨X, rfl⟩ := Int.eq_ofNat_of_zero_le h0
  have h := bits_and_u64_nat X 1 (by omega) (by omega)
  have e : X &&& 1 = X % 2 := Nat.and_two_pow_sub_one_eq_mod X 1
  rw [e] at h
  exact h
theorem shr_lt {x : Int} (h0 : 0 ≤ x) (h1 : x < 18446744073709551616) (s : Nat) : 0 ≤ x / 2 ^ s ∧ x / 2 ^ s < 18446744073709551616 := by
  have := shr_nonneg h0 s
  have := shr_le h0 s
  rw [shr_pow] at *
  omega
theorem bit_hi {b : Int} (hb : U128 b) {k : Nat} (hk : k ≤ 63) : bits .and .u64 (hi b / 2 ^ ((127 - k) % 64)) 1 = (bitAt b (127 - k)).1 := by
  obtain ⟨a2, a3⟩ := hi_U hb
  obtain ⟨c0, c1⟩ := shr_lt a2 a3 ((127 - k) % 64)
  rw [and_one _ c0 c1]
  show _ = shr b (127 - k) % 2
  rw [show 127 - k = 64 + (127 - k) % 64 by omega, shr_add, shr_pow, shr_pow, show (64 + (127 - k) % 64) % 64 = (127 - k) % 64 by omega]
  rfl
theorem lo_bit (b : Int) {s : Nat} (hs : s ≤ 63) : lo b / 2 ^ s % 2 = shr b s % 2 := by
  rw [shr_pow]
  unfold lo
  have e : (18446744073709551616 : Int) = 2 ^ s * (2 * 2 ^ (63 - s)) := by
    rw [show (2 : Int) * 2 ^ (63 - s) = 2 ^ (64 - s) by rw [show 64 - s = (63 - s) + 1 by omega, Int.pow_succ, Int.mul_comm], ← Int.pow_add, show s + (64 - s) = 64 by omega]; rfl
  have hp : (0 : Int) < 2 ^ s := Int.pow_pos (by omega)
  have h1 : b % 18446744073709551616 = b - 18446744073709551616 * (b / 18446744073709551616) := by omega
  rw [h1]
  generalize b / 18446744073709551616 = c
  have h2 : b - 18446744073709551616 * c = b + 2 ^ s * (-(2 * 2 ^ (63 - s) * c)) := by
    conv => lhs; rw [e]
    rw [Int.mul_neg, Int.mul_assoc (2 ^ s)]; rfl
  rw [h2, Int.add_mul_ediv_left _ _ (by omega), Int.mul_assoc]
  generalize 2 ^ (63 - s) * c = d
  generalize b / 2 ^ s = f
  omega
theorem bit_lo {b : Int} {k : Nat} (hk : 64 ≤ k) (hk2 : k ≤ 127) : bits .and .u64 (lo b / 2 ^ ((127 - k) % 64)) 1 = (bitAt b (127 - k)).1 := by
  obtain ⟨a2, a3⟩ := lo_bd b
  obtain ⟨c0, c1⟩ := shr_lt a2 a3 ((127 - k) % 64)
  rw [and_one _ c0 c1, lo_bit _ (by omega)]
  show _ = shr b (127 - k) % 2
  rw [show (127 - k) % 64 = 127 - k by omega]


set_option maxRecDepth 100000 in
set_option maxHeartbeats 1600000 in
theorem down_in (l Bn : Nat) (b : Int) (hb : U128 b) (J Jx : List Bit → World → Prop)
    (hY : ∀ pre (x : Bit) W, J pre W → pre.length < 128 → YieldAt Fence.wide 8 Try.prog l #[.int .u64 x.1] W fun e W' =>
      (e = .returned (.bool true) ∧ J (pre ++ [x]) W' ∧ W'.heap[Bn]? = W.heap[Bn]?) ∨ (e = .returned (.bool false) ∧ Jx (pre ++ [x]) W'))
    (W : World) (hB : Box2 W Bn (.int .u64 (hi b)) (.int .u64 (lo b)) 123) (h0 : J [] W) :
    CallsIn Fence.wide 9 Try.prog 137 #[.func (.yield l) #[] #[], .pointer (some ⟨Bn, 0, none⟩)] W fun e W' => (∃ v, e = .returned v) ∧
      ((∃ ys, ys = bitsOf b 128 ∧ J ys W') ∨ (∃ pre, pre.length ≤ 128 ∧ Jx pre W')) := by
  obtain ⟨a0, a1⟩ := lo_bd b
  obtain ⟨a2, a3⟩ := hi_U hb
  refine callsIn_of_wp Try.func137 rfl trivial ?_ rfl
  simp only [Try.ntmps137, List.size_toArray, List.length_cons, List.length_nil, Nat.reduceAdd, Nat.reduceSub, Array.replicate_succ, Array.replicate_zero, List.push_toArray, List.append_toArray, List.nil_append, List.cons_append]
  gi_wp2
  gi_loopw [3, 4] (fun p q wr => ∃ k : Nat, k ≤ 128 ∧ p = .int .i64 (127 - k) ∧ Box2 wr Bn (.int .u64 (hi b)) (.int .u64 (lo b)) 123 ∧ J (bitsOf b k) wr)
    (fun p q wr => (intOf p + 1).toNat)
  case atStart =>
    exact ⟨0, by omega, rfl, hB, h0⟩
  case round =>
    obtain ⟨k, hk, rfl, hBr, hJ⟩ := hrel
    have hc0 := hBr.c0
    have hc1 := hBr.c1
    by_cases hk8 : k = 128
    · subst hk8
      gi_wp2
      go_end0
      exact ⟨⟨_, rfl⟩, .inl ⟨_, rfl, hJ⟩⟩
    · obtain ⟨fn, tmps, assign, body, hy, hR⟩ := hY (bitsOf b k) (bitAt b (127 - k)) wr hJ (by simp [bitsOf]; omega)
      by_cases hk6 : k ≤ 63
      · rw [← bit_hi hb hk6] at hy
        gi_wp2
        refine hR.mono ?_
        rintro e W3 (⟨rfl, hJ3, hk3⟩ | ⟨rfl, hJx3⟩)
        · gi_wp2
          go_roundw
          case rel => exact ⟨k + 1, by omega, by congr 1; omega, hk3.trans hBr, by rw [bitsOf_succ]; exact hJ3⟩
          case measure => simp [intOf]; omega
        · gi_wp2
          refine bodyPost_ret (results_none rfl _ _ _) rfl ?_
          exact ⟨⟨_, rfl⟩, .inr ⟨bitsOf b k ++ [bitAt b (127 - k)], by simp [bitsOf]; omega, hJx3⟩⟩
      · rw [← bit_lo (show 64 ≤ k by omega) (show k ≤ 127 by omega)] at hy
        gi_wp2
        refine hR.mono ?_
        rintro e W3 (⟨rfl, hJ3, hk3⟩ | ⟨rfl, hJx3⟩)
        · gi_wp2
          go_roundw
          case rel => exact ⟨k + 1, by omega, by congr 1; omega, hk3.trans hBr, by rw [bitsOf_succ]; exact hJ3⟩
          case measure => simp [intOf]; omega
        · gi_wp2
          refine bodyPost_ret (results_none rfl _ _ _) rfl ?_
          exact ⟨⟨_, rfl⟩, .inr ⟨bitsOf b k ++ [bitAt b (127 - k)], by simp [bitsOf]; omega, hJx3⟩⟩
/-- The iterator's contract: it reads its own box alone. -/
theorem down_stops (Bn : Nat) (b : Int) (hb : U128 b) (w : World) (hB : Box2 w Bn (.int .u64 (hi b)) (.int .u64 (lo b)) 123) :
    SeqStopsK Fence.wide 9 Try.prog 137 #[.pointer (some ⟨Bn, 0, none⟩)] (fun x : Bit => #[Value.int .u64 x.1]) (fun W W' => W'.heap[Bn]? = W.heap[Bn]?) (fun ys => ys = bitsOf b 128) (fun pre => pre.length ≤ 128) 128 w := fun l J Jx W hW _ _ hY h0 =>
  down_in l Bn b hb J Jx hY W (hB.below hW) h0
end Go.Proofs.Ytmkddcmfofabbaa
