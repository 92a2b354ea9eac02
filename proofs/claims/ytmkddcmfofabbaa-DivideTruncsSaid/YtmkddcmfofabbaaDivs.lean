/-
  The plain law of bits.Div64: one half digit of the quotient.
-/
import Derived.Test.YtmkddcmfofabbaaLen
namespace Go.Proofs.Ytmkddcmfofabbaa
open Go Go.RowKit

/-- One half digit is sought: q is at least it, and u = q y1 + r. -/
def Half (u d y1 y0 q r : Int) : Prop := 0 ≤ q ∧ 0 ≤ r ∧ u = q * y1 + r ∧ (u * 4294967296 + d) / (y1 * 4294967296 + y0) ≤ q ∧ q ≤ 4294967297
/-- What is asked of the numbers. -/
def Nrm (u d y1 y0 : Int) : Prop := 2147483648 ≤ y1 ∧ y1 < 4294967296 ∧ 0 ≤ y0 ∧ y0 < 4294967296 ∧ 0 ≤ u ∧ u < y1 * 4294967296 + y0 ∧ 0 ≤ d ∧ d < 4294967296

theorem le_q {u d y1 y0 q : Int} (h : Nrm u d y1 y0) : q ≤ (u * 4294967296 + d) / (y1 * 4294967296 + y0) ↔ q * (y1 * 4294967296 + y0) ≤ u * 4294967296 + d := by
  obtain ⟨a, b, c, d', _⟩ := h
  exact Int.le_ediv_iff_mul_le (by omega)
theorem q_lt {u d y1 y0 : Int} (h : Nrm u d y1 y0) : (u * 4294967296 + d) / (y1 * 4294967296 + y0) < 4294967296 := by
  obtain ⟨a, b, c, d', e, f, g, i⟩ := h
  apply Int.ediv_lt_of_lt_mul (by omega)
  omega
theorem q_nonneg {u d y1 y0 : Int} (h : Nrm u d y1 y0) : 0 ≤ (u * 4294967296 + d) / (y1 * 4294967296 + y0) := by
  obtain ⟨a, b, c, d', e, f, g, i⟩ := h
  exact Int.ediv_nonneg (by omega) (by omega)

theorem half_init {u d y1 y0 : Int} (h : Nrm u d y1 y0) : Half u d y1 y0 (u / y1) (u - u / y1 * y1) ∧ u - u / y1 * y1 < y1 := by
  have hq := q_nonneg h
  have hle := (le_q (q := (u * 4294967296 + d) / (y1 * 4294967296 + y0)) h).1 (Int.le_refl _)
  obtain ⟨a, b, c, d', e, f, g, i⟩ := h
  have h1 := Int.emod_add_mul_ediv u y1
  have h2 := Int.emod_nonneg u (by omega : y1 ≠ 0)
  have h3 := Int.emod_lt_of_pos u (by omega : 0 < y1)
  have h4 : 0 ≤ u / y1 := Int.ediv_nonneg e (by omega)
  have h5 : u / y1 * y1 = y1 * (u / y1) := Int.mul_comm _ _
  unfold Half
  generalize (u * 4294967296 + d) / (y1 * 4294967296 + y0) = Q at *
  refine ⟨⟨h4, by omega, by omega, ?_, ?_⟩, by omega⟩
  · apply (Int.le_ediv_iff_mul_le (by omega)).2
    have : 0 ≤ Q * y0 := Int.mul_nonneg hq c
    have e1 : Q * (y1 * 4294967296 + y0) = Q * y1 * 4294967296 + Q * y0 := by grind
    omega
  · have e1 : u / y1 * y1 < (4294967296 + 2) * y1 := by omega
    have := Int.lt_of_mul_lt_mul_right e1 (by omega)
    omega

theorem half_step {u d y1 y0 q r : Int} (h : Nrm u d y1 y0) (H : Half u d y1 y0 q r) (ht : 4294967296 ≤ q ∨ 4294967296 * r + d < q * y0) : Half u d y1 y0 (q - 1) (r + y1) ∧ q - 1 ≤ 4294967296 ∧ 1 ≤ q := by
  have hq := q_nonneg h
  have hl := q_lt h
  have hle := (le_q (q := q) h).1
  obtain ⟨a, b, c, d', e, f, g, i⟩ := h
  obtain ⟨p0, p1, p2, p3, p4⟩ := H
  have key : (u * 4294967296 + d) / (y1 * 4294967296 + y0) < q := by
    rcases ht with ht | ht
    · omega
    · refine Int.not_le.1 fun hn => ?_
      have := hle hn
      have e1 : q * (y1 * 4294967296 + y0) = q * y1 * 4294967296 + q * y0 := by grind
      omega
  have e2 : (q - 1) * y1 = q * y1 - y1 := by grind
  refine ⟨⟨by omega, by omega, by omega, by omega, by omega⟩, by omega, by omega⟩

theorem half_end {u d y1 y0 q r : Int} (h : Nrm u d y1 y0) (H : Half u d y1 y0 q r) (ht : q * y0 ≤ 4294967296 * r + d) : q = (u * 4294967296 + d) / (y1 * 4294967296 + y0) := by
  have hle := (le_q (q := q) h).2
  obtain ⟨p0, p1, p2, p3, p4⟩ := H
  have e1 : q * (y1 * 4294967296 + y0) = q * y1 * 4294967296 + q * y0 := by grind
  have := hle (by omega)
  omega
theorem half_brk {u d y1 y0 q r : Int} (h : Nrm u d y1 y0) (H : Half u d y1 y0 q r) (hq : q ≤ 4294967296) (hr : 4294967296 ≤ r) : q = (u * 4294967296 + d) / (y1 * 4294967296 + y0) := by
  refine half_end h H ?_
  obtain ⟨a, b, c, d', e, f, g, i⟩ := h
  obtain ⟨p0, p1, p2, p3, p4⟩ := H
  have : q * y0 ≤ 4294967296 * 4294967296 := Int.mul_le_mul hq (by omega) c (by omega)
  omega
/-- No product of the test is too great. -/
theorem half_room {u d y1 y0 q r : Int} (h : Nrm u d y1 y0) (H : Half u d y1 y0 q r) : 0 ≤ q * y0 ∧ q * y0 < 18446744073709551616 := by
  obtain ⟨a, b, c, d', e, f, g, i⟩ := h
  obtain ⟨p0, p1, p2, p3, p4⟩ := H
  refine ⟨Int.mul_nonneg p0 c, ?_⟩
  have : q * y0 ≤ 4294967297 * 4294967295 := Int.mul_le_mul p4 (by omega) c (by omega)
  omega

/-- The two half digits together. -/
theorem halves {u un1 un0 Y q1 q0 : Int} (hY : 0 < Y) (_h1 : q1 = (u * 4294967296 + un1) / Y) (h0 : q0 = ((u * 4294967296 + un1 - q1 * Y) * 4294967296 + un0) / Y) :
    (u * 18446744073709551616 + un1 * 4294967296 + un0) / Y = q1 * 4294967296 + q0 ∧
    (u * 18446744073709551616 + un1 * 4294967296 + un0) % Y = (u * 4294967296 + un1 - q1 * Y) * 4294967296 + un0 - q0 * Y := by
  have a1 := Int.emod_add_mul_ediv ((u * 4294967296 + un1 - q1 * Y) * 4294967296 + un0) Y
  have a2 := Int.emod_nonneg ((u * 4294967296 + un1 - q1 * Y) * 4294967296 + un0) (by omega : Y ≠ 0)
  have a3 := Int.emod_lt_of_pos ((u * 4294967296 + un1 - q1 * Y) * 4294967296 + un0) hY
  rw [← h0] at a1
  generalize ((u * 4294967296 + un1 - q1 * Y) * 4294967296 + un0) % Y = R at *
  have e : u * 18446744073709551616 + un1 * 4294967296 + un0 = R + Y * (q1 * 4294967296 + q0) := by grind
  have e2 : (u * 4294967296 + un1 - q1 * Y) * 4294967296 + un0 - q0 * Y = R := by grind
  rw [e, e2, Int.add_mul_ediv_left _ _ (by omega), Int.add_mul_emod_self_left, Int.ediv_eq_zero_of_lt a2 a3, Int.emod_eq_of_lt a2 a3]
  exact ⟨by omega, rfl⟩

end Go.Proofs.Ytmkddcmfofabbaa
