/-
  bits.Div64: the numbers that it starts from.
-/
import Derived.Test.YtmkddcmfofabbaaDivs
import Derived.Laws.Bits64b
namespace Go.Proofs.Ytmkddcmfofabbaa
open Go Go.RowKit

theorem u64_id {x : Int} (h0 : 0 ≤ x) (h1 : x < 18446744073709551616) : IntKind.u64.wrap x = x := by rw [IntKind.wrap_u64]; omega
theorem mask32 (x : Int) (h0 : 0 ≤ x) (h1 : x < 18446744073709551616) : bits .and .u64 x 4294967295 = x % 4294967296 := by
  obtain ⟨X, rfl⟩ := Int.eq_ofNat_of_zero_le h0
  have h := bits_and_u64_nat X 4294967295 (by omega) (by omega)
  have e : X &&& 4294967295 = X % 4294967296 := Nat.and_two_pow_sub_one_eq_mod X 32
  rw [e] at h
  exact h
theorem or_add (h b : Int) (s : Nat) (h0 : 0 ≤ h) (b0 : 0 ≤ b) (hh : h * 2 ^ s < 18446744073709551616) (hb : b < 2 ^ s) (h2 : h * 2 ^ s + b < 18446744073709551616) : bits .or .u64 (h * 2 ^ s) b = h * 2 ^ s + b := by
  obtain ⟨H, rfl⟩ := Int.eq_ofNat_of_zero_le h0
  obtain ⟨B, rfl⟩ := Int.eq_ofNat_of_zero_le b0
  have e2 : ((2 ^ s : Nat) : Int) = 2 ^ s := by push_cast; rfl
  rw [← e2] at hh hb h2 ⊢
  have e : (H : Int) * ((2 ^ s : Nat) : Int) = ((H * 2 ^ s : Nat) : Int) := (Int.natCast_mul _ _).symm
  rw [e] at hh h2 ⊢
  rw [bits_or_u64_nat _ _ (by omega) (by omega)]
  have := Nat.shiftLeft_add_eq_or_of_lt (b := B) (i := s) (by omega) H
  rw [Nat.shiftLeft_eq] at this
  rw [← this]
  exact Int.natCast_add _ _

theorem pow_s (s : Nat) (hs : s ≤ 63) : (2 : Int) ^ (64 - s) * 2 ^ s = 18446744073709551616 ∧ (0 : Int) < 2 ^ s ∧ (0 : Int) < 2 ^ (64 - s) := by
  refine ⟨?_, ?_, ?_⟩
  · rw [← Int.pow_add, show 64 - s + s = 64 by omega]; rfl
  · exact Int.pow_pos (by omega)
  · exact Int.pow_pos (by omega)

theorem div_pre (h l y : Int) (s : Nat) (h0 : 0 < h) (hy : h < y) (l0 : 0 ≤ l) (l1 : l < 18446744073709551616) (s1 : s ≤ 63) (s2 : 9223372036854775808 ≤ y * 2 ^ s) (s3 : y * 2 ^ s < 18446744073709551616) :
    ∃ Y Y1 Y0 U T T1 T0 : Int, y * 2 ^ s = Y ∧ Y / 4294967296 = Y1 ∧ bits .and .u64 Y 4294967295 = Y0 ∧ bits .or .u64 (IntKind.u64.wrap (h * 2 ^ s)) (l / 2 ^ (64 - s)) = U ∧
      IntKind.u64.wrap (l * 2 ^ s) = T ∧ T / 4294967296 = T1 ∧ bits .and .u64 T 4294967295 = T0 ∧ Y = Y1 * 4294967296 + Y0 ∧ T = T1 * 4294967296 + T0 ∧ 0 ≤ T0 ∧ T0 < 4294967296 ∧
      Nrm U T1 Y1 Y0 ∧ (h * 18446744073709551616 + l) * 2 ^ s = U * 18446744073709551616 + T1 * 4294967296 + T0 := by
  obtain ⟨p, p0, p1⟩ := pow_s s s1
  have a0 : 0 < h * 2 ^ s := Int.mul_pos h0 p0
  have a1 : (h + 1) * 2 ^ s ≤ y * 2 ^ s := Int.mul_le_mul_of_nonneg_right (by omega) (by omega)
  have a2 : (h + 1) * 2 ^ s = h * 2 ^ s + 2 ^ s := by grind
  have b0 : 0 ≤ l / 2 ^ (64 - s) := Int.ediv_nonneg l0 (by omega)
  have b1 : l / 2 ^ (64 - s) < 2 ^ s := by
    apply Int.ediv_lt_of_lt_mul p1
    rw [Int.mul_comm, p]; exact l1
  have c1 : l * 2 ^ s / 18446744073709551616 = l / 2 ^ (64 - s) := by
    rw [← p, Int.mul_ediv_mul_of_pos_left _ _ p0]
  have hw : IntKind.u64.wrap (l * 2 ^ s) = l * 2 ^ s % 18446744073709551616 := IntKind.wrap_u64 _
  have e1 : bits .or .u64 (IntKind.u64.wrap (h * 2 ^ s)) (l / 2 ^ (64 - s)) = h * 2 ^ s + l / 2 ^ (64 - s) := by
    rw [u64_id (by omega) (by omega), or_add h _ s (by omega) b0 (by omega) b1 (by omega)]
  refine ⟨y * 2 ^ s, y * 2 ^ s / 4294967296, y * 2 ^ s % 4294967296, h * 2 ^ s + l / 2 ^ (64 - s), l * 2 ^ s % 18446744073709551616, l * 2 ^ s % 18446744073709551616 / 4294967296, l * 2 ^ s % 18446744073709551616 % 4294967296, rfl, rfl, mask32 _ (by omega) (by omega), e1, hw, rfl, mask32 _ (by omega) (by omega), by omega, by omega, by omega, by omega, ⟨by omega, by omega, by omega, by omega, by omega, by omega, by omega, by omega⟩, ?_⟩
  have e2 : (h * 18446744073709551616 + l) * 2 ^ s = h * 2 ^ s * 18446744073709551616 + l * 2 ^ s := by grind
  rw [e2]
  omega

/-- The rest of the first half digit, as the code comes to it. -/
theorem div_mid {U T1 Y1 Y0 Y q : Int} (h : Nrm U T1 Y1 Y0) (hY : Y = Y1 * 4294967296 + Y0) (hq : q = (U * 4294967296 + T1) / (Y1 * 4294967296 + Y0)) :
    IntKind.u64.wrap (IntKind.u64.wrap (IntKind.u64.wrap (U * 4294967296) + T1) - IntKind.u64.wrap (q * Y)) = U * 4294967296 + T1 - q * Y ∧
    ∀ {d : Int}, 0 ≤ d → d < 4294967296 → Nrm (U * 4294967296 + T1 - q * Y) d Y1 Y0 := by
  obtain ⟨a, b, c, d', e, f, g, i⟩ := h
  rw [← hY] at hq f
  have a1 := Int.emod_add_mul_ediv (U * 4294967296 + T1) Y
  have a2 := Int.emod_nonneg (U * 4294967296 + T1) (by omega : Y ≠ 0)
  have a3 := Int.emod_lt_of_pos (U * 4294967296 + T1) (by omega : 0 < Y)
  rw [← hq, Int.mul_comm Y q] at a1
  have hv : 0 ≤ U * 4294967296 + T1 - q * Y ∧ U * 4294967296 + T1 - q * Y < Y := by omega
  refine ⟨?_, fun h0 h1 => ⟨a, b, c, d', hv.1, by rw [← hY]; exact hv.2, h0, h1⟩⟩
  simp only [IntKind.wrap_u64]
  omega

/-- The first guess of a half digit, as the code comes to it. -/
theorem div_first {U d Y1 Y0 : Int} (h : Nrm U d Y1 Y0) : U.tdiv Y1 = U / Y1 ∧ IntKind.u64.wrap (U / Y1) = U / Y1 ∧ IntKind.u64.wrap (U / Y1 * Y1) = U / Y1 * Y1 ∧ IntKind.u64.wrap (U - U / Y1 * Y1) = U - U / Y1 * Y1 := by
  obtain ⟨⟨i0, i1, i2, i3, i4⟩, hIr⟩ := half_init h
  obtain ⟨n0, n1, n2, n3, n4, n5, n6, n7⟩ := h
  exact ⟨Int.tdiv_eq_ediv_of_nonneg n4, u64_id i0 (by omega), u64_id (Int.mul_nonneg i0 (by omega)) (by omega), u64_id (by omega) (by omega)⟩

/-- What is returned. -/
theorem div_end {h l y Y Y1 Y0 U T1 T0 Q V q : Int} {s : Nat} (s1 : s ≤ 63) (hs : y * 2 ^ s = Y) (hV : (h * 18446744073709551616 + l) * 2 ^ s = U * 18446744073709551616 + T1 * 4294967296 + T0) (hY : Y = Y1 * 4294967296 + Y0)
    (hN : Nrm U T1 Y1 Y0) (hQ : Q = (U * 4294967296 + T1) / (Y1 * 4294967296 + Y0)) (hv : V = U * 4294967296 + T1 - Q * Y) (hM : Nrm V T0 Y1 Y0) (hq : q = (V * 4294967296 + T0) / (Y1 * 4294967296 + Y0)) :
    IntKind.u64.wrap (IntKind.u64.wrap (Q * 4294967296) + q) = (h * 18446744073709551616 + l) / y ∧
    IntKind.u64.wrap (IntKind.u64.wrap (IntKind.u64.wrap (V * 4294967296) + T0) - IntKind.u64.wrap (q * Y)) / 2 ^ s = (h * 18446744073709551616 + l) % y := by
  obtain ⟨p, p0, p1⟩ := pow_s s s1
  have a0 := q_nonneg hN
  have a1 := q_lt hN
  have b0 := q_nonneg hM
  have b1 := q_lt hM
  rw [← hQ] at a0 a1
  rw [← hq] at b0 b1
  have hk := (div_mid hM hY hq).1
  have hY0 : 0 < Y := by obtain ⟨n0, n1, n2, n3, n4, n5, n6, n7⟩ := hN; omega
  rw [← hY] at hQ hq
  rw [hv] at hq
  obtain ⟨d1, d2⟩ := halves (un0 := T0) hY0 hQ hq
  rw [← hV, ← hs] at d1 d2
  rw [Int.mul_ediv_mul_of_pos_left _ _ p0] at d1
  have d3 : ∀ N : Int, N * 2 ^ s % (y * 2 ^ s) = N % y * 2 ^ s := by
    intro N
    rw [Int.mul_comm N, Int.mul_comm y, Int.mul_emod_mul_of_pos _ _ p0, Int.mul_comm]
  rw [d3] at d2
  refine ⟨?_, ?_⟩
  · rw [d1, u64_id (x := Q * 4294967296) (by omega) (by omega), u64_id (by omega) (by omega)]
  · rw [hk, hv, ← hs, ← d2]
    exact Int.mul_ediv_cancel _ (by omega)

end Go.Proofs.Ytmkddcmfofabbaa
