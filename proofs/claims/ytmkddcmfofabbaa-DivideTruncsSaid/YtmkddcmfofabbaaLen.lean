/-
  bits.Len64, bits.LeadingZeros64.
-/
import Derived.Test.YtmkddcmfofabbaaExt
import Derived.Lib.Strings
import Derived.Lib.Slices
import Derived.Lib.Small
import Derived.Lib.Walk
import Derived.Lib.BitFns
namespace Go.Proofs.Ytmkddcmfofabbaa
open Go Go.RowKit

theorem tab_size : (Lib.len8tab.size : Int) = 256 := by
  have : Lib.len8tab.size = 256 := by decide +kernel
  omega
theorem wadd_k (k a b : Nat) (hk : k ≤ 56) (ha : a ≤ 8) (hb : b = k + a) : wrap64 ((k : Int) + wrap64 (a : Int)) = (b : Int) := by unfold wrap64; omega
theorem wwrap_k (a : Nat) (ha : a ≤ 8) : wrap64 (wrap64 (a : Int)) = (a : Int) := by unfold wrap64; omega
theorem wone_k (a : Nat) (ha : a ≤ 8) : wrap64 (a : Int) = (a : Int) := by unfold wrap64; omega
theorem tab_get (y : Int) (h : y.toNat < Lib.len8tab.size) : ((Lib.len8tab[y.toNat]'h).toNat : Int) = Lib.len8 y := by
  unfold Lib.len8
  rw [getElem?_pos Lib.len8tab y.toNat h]
  rfl

set_option maxRecDepth 100000 in
set_option maxHeartbeats 8000000 in
theorem len64 (x : Int) (w : World) (h0 : 0 ≤ x) (h1 : x ≤ 18446744073709551615) :
    Calls Try.prog 136 #[.int .u64 x] w fun e w' => e = .returned (.int .i64 (Lib.bitLen x.toNat)) ∧ w' = w := by
  have hs := tab_size
  go_enter Try.func136, Try.ntmps136
  go_wp2
  all_goals (go_ret; refine ⟨congrArg Ending.returned (congrArg (Value.int IntKind.i64) ?_), rfl⟩)
  all_goals first
    | (rw [tab_get (x / 4294967296 / 65536 / 256) _, Lib.len8_of (x / 4294967296 / 65536 / 256) (by omega) (by omega)]
       have e : (x / 4294967296 / 65536 / 256).toNat = x.toNat / 72057594037927936 := by omega
       have l := Lib.bitLen_le8' (x / 4294967296 / 65536 / 256) (by omega) (by omega)
       have s := Lib.bitLen_shift56 x.toNat (by omega) (by omega)
       rw [e] at l ⊢
       exact wadd_k 56 _ _ (by decide) l s)
    | (rw [tab_get (x / 4294967296 / 65536) _, Lib.len8_of (x / 4294967296 / 65536) (by omega) (by omega)]
       have e : (x / 4294967296 / 65536).toNat = x.toNat / 281474976710656 := by omega
       have l := Lib.bitLen_le8' (x / 4294967296 / 65536) (by omega) (by omega)
       have s := Lib.bitLen_shift48 x.toNat (by omega) (by omega)
       rw [e] at l ⊢
       exact wadd_k 48 _ _ (by decide) l s)
    | (rw [tab_get (x / 4294967296 / 256) _, Lib.len8_of (x / 4294967296 / 256) (by omega) (by omega)]
       have e : (x / 4294967296 / 256).toNat = x.toNat / 1099511627776 := by omega
       have l := Lib.bitLen_le8' (x / 4294967296 / 256) (by omega) (by omega)
       have s := Lib.bitLen_shift40 x.toNat (by omega) (by omega)
       rw [e] at l ⊢
       exact wadd_k 40 _ _ (by decide) l s)
    | (rw [tab_get (x / 4294967296) _, Lib.len8_of (x / 4294967296) (by omega) (by omega)]
       have e : (x / 4294967296).toNat = x.toNat / 4294967296 := by omega
       have l := Lib.bitLen_le8' (x / 4294967296) (by omega) (by omega)
       have s := Lib.bitLen_shift32 x.toNat (by omega) (by omega)
       rw [e] at l ⊢
       exact wadd_k 32 _ _ (by decide) l s)
    | (rw [tab_get (x / 65536 / 256) _, Lib.len8_of (x / 65536 / 256) (by omega) (by omega)]
       have e : (x / 65536 / 256).toNat = x.toNat / 16777216 := by omega
       have l := Lib.bitLen_le8' (x / 65536 / 256) (by omega) (by omega)
       have s := Lib.bitLen_shift24 x.toNat (by omega) (by omega)
       rw [e] at l ⊢
       exact wadd_k 24 _ _ (by decide) l s)
    | (rw [tab_get (x / 65536) _, Lib.len8_of (x / 65536) (by omega) (by omega)]
       have e : (x / 65536).toNat = x.toNat / 65536 := by omega
       have l := Lib.bitLen_le8' (x / 65536) (by omega) (by omega)
       have s := Lib.bitLen_shift16 x.toNat (by omega) (by omega)
       rw [e] at l ⊢
       exact wadd_k 16 _ _ (by decide) l s)
    | (rw [tab_get (x / 256) _, Lib.len8_of (x / 256) (by omega) (by omega)]
       have e : (x / 256).toNat = x.toNat / 256 := by omega
       have l := Lib.bitLen_le8' (x / 256) (by omega) (by omega)
       have s := Lib.bitLen_shift8 x.toNat (by omega) (by omega)
       rw [e] at l ⊢
       exact wadd_k 8 _ _ (by decide) l s)
    | (rw [tab_get x _, Lib.len8_of x (by omega) (by omega)]
       have l := Lib.bitLen_le8' x (by omega) (by omega)
       first | exact wwrap_k _ l | exact wadd_k 0 _ _ (by decide) l (by omega) | exact wone_k _ l)

theorem aux_bd : ∀ (f x : Nat), x < 2 ^ f → x < 2 ^ Lib.bitLenAux f x ∧ (x ≠ 0 → 2 ^ Lib.bitLenAux f x ≤ 2 * x) ∧ Lib.bitLenAux f x ≤ f
  | 0, x, h => by simp [Lib.bitLenAux] at *; omega
  | f + 1, x, h => by
    simp only [Lib.bitLenAux]
    by_cases h0 : x = 0
    · simp [h0]
    · rw [if_neg h0]
      obtain ⟨a, b, c⟩ := aux_bd f (x / 2) (by rw [Nat.pow_succ] at h; omega)
      rw [Nat.add_comm, Nat.pow_succ]
      refine ⟨by omega, fun _ => ?_, by omega⟩
      by_cases h1 : x / 2 = 0
      · rw [h1]; cases f <;> simp [Lib.bitLenAux] <;> omega
      · have := b h1; omega

/-- By so much a number is moved up till its first bit is the 64th. -/
theorem norm (y : Int) (h0 : 0 < y) (h1 : y < 18446744073709551616) : ∃ s : Nat, s ≤ 63 ∧ 64 - (Lib.bitLen y.toNat : Int) = s ∧ 9223372036854775808 ≤ y * 2 ^ s ∧ y * 2 ^ s < 18446744073709551616 := by
  obtain ⟨Y, rfl⟩ := Int.eq_ofNat_of_zero_le (by omega : 0 ≤ y)
  rw [Int.toNat_natCast]
  obtain ⟨a, b, c⟩ := aux_bd 64 Y (by omega)
  change Y < 2 ^ Lib.bitLen Y at a
  change _ → 2 ^ Lib.bitLen Y ≤ 2 * Y at b
  change Lib.bitLen Y ≤ 64 at c
  have b := b (by omega)
  generalize Lib.bitLen Y = k at *
  have hk : 1 ≤ k := by
    rcases k with _ | k
    · simp at a; omega
    · omega
  have e : 2 ^ k * 2 ^ (64 - k) = 18446744073709551616 := by rw [← Nat.pow_add, show k + (64 - k) = 64 by omega]
  have e1 : Y * 2 ^ (64 - k) < 2 ^ k * 2 ^ (64 - k) := Nat.mul_lt_mul_of_pos_right a (Nat.two_pow_pos _)
  have e2 : 2 ^ k * 2 ^ (64 - k) ≤ 2 * Y * 2 ^ (64 - k) := Nat.mul_le_mul_right _ b
  rw [Nat.mul_assoc] at e2
  refine ⟨64 - k, by omega, by omega, ?_, ?_⟩
  · have : ((Y * 2 ^ (64 - k) : Nat) : Int) = (Y : Int) * 2 ^ (64 - k) := by push_cast; rfl
    omega
  · have : ((Y * 2 ^ (64 - k) : Nat) : Int) = (Y : Int) * 2 ^ (64 - k) := by push_cast; rfl
    omega

set_option maxRecDepth 100000 in
set_option maxHeartbeats 1600000 in
theorem lz64 (y : Int) (w : World) (h0 : 0 < y) (h1 : y < 18446744073709551616) :
    Calls Try.prog 122 #[.int .u64 y] w fun e w' => ∃ s : Nat, e = .returned (.int .i64 s) ∧ s ≤ 63 ∧ 9223372036854775808 ≤ y * 2 ^ s ∧ y * 2 ^ s < 18446744073709551616 ∧ w' = w := by
  obtain ⟨s, s1, s2, s3, s4⟩ := norm y h0 h1
  have H := Lib.hid s2
  have H1 := Lib.hid len64
  have c1 : (Lib.bitLen y.toNat : Int) ≤ 64 := by omega
  have c2 : 0 ≤ (Lib.bitLen y.toNat : Int) := by omega
  clear s2
  go_enter Try.func122, Try.ntmps122
  go_wp2_with fail
  refine (H1.out _ _ (by omega) (by omega)).mono ?_
  rintro e w1 ⟨rfl, rfl⟩
  go_wp2_with fail
  refine bodyPost_ret (v := .int .i64 (64 - (Lib.bitLen y.toNat : Int))) (by simp [results, Try.results122, go_sem]) rfl ⟨s, by rw [H.out], s1, s3, s4, rfl⟩

end Go.Proofs.Ytmkddcmfofabbaa
