/-
  The reference's Common of layer 3.
-/
import Derived.Test.YtcndfpfjckkinaaGg
import Derived.Test.YtcndfpfjckkinaaGf
set_option linter.unusedSimpArgs false
set_option linter.unusedVariables false
namespace Go.Proofs.Ytcndfpfjckkinaa
open Go Go.RowKit

theorem gcd_b {K : Nat} {a b : Int} (ha : Bits K a) (hb : Bits K b) : Bits K ((Nat.gcd b.natAbs (((a.natAbs : Int)).fmod (b.natAbs : Int)).natAbs : Nat) : Int) := by
  by_cases h0 : b = 0
  · subst h0; simp only [Int.natAbs_zero, Nat.gcd_zero_left]; exact ha.le (by simp)
  · exact hb.le (by simpa using Nat.gcd_le_left _ (by omega))
theorem cmp_no {b : Int} (h : ¬ b = 0) : (cmpI b 0 == 0) = false := by
  simp only [beq_eq_false_iff_ne, ne_eq]; unfold cmpI
  by_cases h1 : b < 0
  · simp [h1]
  · simp [h1, h]
theorem gcd_fmod {a b : Int} : Nat.gcd b.natAbs (((a.natAbs : Int)).fmod (b.natAbs : Int)).natAbs = Nat.gcd a.natAbs b.natAbs := by
  rw [Int.fmod_eq_emod_of_nonneg _ (by omega), show ((a.natAbs : Int) % (b.natAbs : Int)).natAbs = a.natAbs % b.natAbs by omega, ← gcd_step]
end Go.Proofs.Ytcndfpfjckkinaa

/-
  The reference's Cut of layer 3.
-/
set_option linter.unusedSimpArgs false
set_option linter.unusedVariables false
namespace Go.Proofs.Ytcndfpfjckkinaa
open Go Go.RowKit

theorem cut_same {a b : Int} (h : decide (a < 0) = decide (b < 0)) : Int.fdiv a.natAbs b.natAbs = a.tdiv b := by
  rw [Int.fdiv_eq_ediv_of_nonneg _ (by omega), ← tdiv_mag a b, h]
  simp only [beq_self_eq_true, Bool.not_true, wsg_f]
  rw [mag_abs, mag_abs]
theorem cut_other {a b : Int} (h : ¬ decide (a < 0) = decide (b < 0)) : -(Int.fdiv a.natAbs b.natAbs) = a.tdiv b := by
  rw [Int.fdiv_eq_ediv_of_nonneg _ (by omega), ← tdiv_mag a b, beq_false_of_ne h]
  simp only [Bool.not_false, wsg_t]
  rw [mag_abs, mag_abs]
end Go.Proofs.Ytcndfpfjckkinaa

/-
  The reference's Trunc of layer 3.
-/
set_option linter.unusedSimpArgs false
set_option linter.unusedVariables false
namespace Go.Proofs.Ytcndfpfjckkinaa
open Go Go.RowKit

theorem tmod_b {K : Nat} {a b : Int} (h : Bits K b) (h0 : b ≠ 0) : Bits K (a.tmod b) := by
  obtain ⟨k1, k2, k3⟩ := tdm (a := a) h0
  exact h.le (by omega)
theorem tdiv_b {K : Nat} {a b : Int} (h : Bits K a) : Bits K (a.tdiv b) := h.le (by rw [tdiv_nat]; exact Nat.div_le_self _ _)
end Go.Proofs.Ytcndfpfjckkinaa

/-
  The reference's Lowest of layer 3: a fraction in its lowest terms.
-/
set_option linter.unusedSimpArgs false
set_option linter.unusedVariables false
namespace Go.Proofs.Ytcndfpfjckkinaa
open Go Go.RowKit

/-- A fraction in its lowest terms: above, below. -/
def frP (n d : Int) : Int := wsg (!(decide (n < 0) == decide (d < 0))) ((n.natAbs / Nat.gcd n.natAbs d.natAbs : Nat) : Int)
def frQ (n d : Int) : Int := ((d.natAbs / Nat.gcd n.natAbs d.natAbs : Nat) : Int)
theorem gcd_pos {a b : Int} (h : b ≠ 0) : 0 < Nat.gcd a.natAbs b.natAbs := Nat.gcd_pos_of_pos_right _ (by omega)
theorem gcd_bits {K : Nat} {a b : Int} (hb : Bits K b) (h : b ≠ 0) : Bits K ((Nat.gcd a.natAbs b.natAbs : Nat) : Int) := hb.le (by simpa using Nat.gcd_le_right _ (show 0 < b.natAbs by omega))
theorem fr_a (a b : Int) : ∃ X : Nat, a.natAbs = X * Nat.gcd a.natAbs b.natAbs := (Nat.gcd_dvd_left a.natAbs b.natAbs).elim fun X h => ⟨X, by rw [Nat.mul_comm]; exact h⟩
theorem fr_b (a b : Int) : ∃ X : Nat, b.natAbs = X * Nat.gcd a.natAbs b.natAbs := (Nat.gcd_dvd_right a.natAbs b.natAbs).elim fun X h => ⟨X, by rw [Nat.mul_comm]; exact h⟩
theorem fdiv_exact {m g X : Int} (hg : g ≠ 0) (h : m = X * g) : m.fdiv g = X := by rw [h]; exact Int.mul_fdiv_cancel _ hg
theorem frP_false {a b : Int} (h : b ≠ 0) (hs : 0 ≤ b) : a.fdiv ((Nat.gcd a.natAbs b.natAbs : Nat) : Int) = frP a b := by
  have g := gcd_pos (a := a) h
  obtain ⟨X, hX⟩ := fr_a a b
  unfold frP
  generalize Nat.gcd a.natAbs b.natAbs = G at *
  have e : a.natAbs / G = X := by rw [hX]; exact Nat.mul_div_cancel _ g
  rw [e, decide_eq_false (show ¬ b < 0 by omega)]
  refine fdiv_exact (by omega) ?_
  have hc : (a.natAbs : Int) = (X : Int) * (G : Int) := by rw [hX]; exact Int.natCast_mul X G
  by_cases ha : a < 0
  · rw [decide_eq_true ha]
    show a = -(X : Int) * G
    rw [Int.neg_mul]; omega
  · rw [decide_eq_false ha]
    show a = (X : Int) * G
    omega
theorem frP_true {a b : Int} (h : b ≠ 0) (hs : b < 0) : a.fdiv (-((Nat.gcd a.natAbs b.natAbs : Nat) : Int)) = frP a b := by
  have g := gcd_pos (a := a) h
  obtain ⟨X, hX⟩ := fr_a a b
  unfold frP
  generalize Nat.gcd a.natAbs b.natAbs = G at *
  have e : a.natAbs / G = X := by rw [hX]; exact Nat.mul_div_cancel _ g
  rw [e, decide_eq_true hs]
  refine fdiv_exact (by omega) ?_
  have hc : (a.natAbs : Int) = (X : Int) * (G : Int) := by rw [hX]; exact Int.natCast_mul X G
  by_cases ha : a < 0
  · rw [decide_eq_true ha]
    show a = (X : Int) * -(G : Int)
    rw [Int.mul_neg]; omega
  · rw [decide_eq_false ha]
    show a = -(X : Int) * -(G : Int)
    rw [Int.neg_mul_neg]; omega
theorem frQ_false {a b : Int} (h : b ≠ 0) (hs : 0 ≤ b) : b.fdiv ((Nat.gcd a.natAbs b.natAbs : Nat) : Int) = frQ a b := by
  have g := gcd_pos (a := a) h
  obtain ⟨X, hX⟩ := fr_b a b
  unfold frQ
  generalize Nat.gcd a.natAbs b.natAbs = G at *
  have e : b.natAbs / G = X := by rw [hX]; exact Nat.mul_div_cancel _ g
  rw [e]
  refine fdiv_exact (by omega) ?_
  have hc : (b.natAbs : Int) = (X : Int) * (G : Int) := by rw [hX]; exact Int.natCast_mul X G
  omega
theorem frQ_true {a b : Int} (h : b ≠ 0) (hs : b < 0) : b.fdiv (-((Nat.gcd a.natAbs b.natAbs : Nat) : Int)) = frQ a b := by
  have g := gcd_pos (a := a) h
  obtain ⟨X, hX⟩ := fr_b a b
  unfold frQ
  generalize Nat.gcd a.natAbs b.natAbs = G at *
  have e : b.natAbs / G = X := by rw [hX]; exact Nat.mul_div_cancel _ g
  rw [e]
  refine fdiv_exact (by omega) ?_
  have hc : (b.natAbs : Int) = (X : Int) * (G : Int) := by rw [hX]; exact Int.natCast_mul X G
  rw [Int.mul_neg]; omega
end Go.Proofs.Ytcndfpfjckkinaa
